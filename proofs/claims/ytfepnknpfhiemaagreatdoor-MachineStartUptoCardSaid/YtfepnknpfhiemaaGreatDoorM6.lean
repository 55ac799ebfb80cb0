/- Part 6 of what the proofs stand on: plain functions of the program, and that they are its functions. -/
import Derived.Test.YtfepnknpfhiemaaGreatDoorM4
import Derived.Test.YtfepnknpfhiemaaGreatDoorM5
import Derived.Shelf.SlSortCmp.NoneTotal
import Derived.Test.YtfepnknpfhiemaaGreatDoorM1
import Derived.ProofKit
import Derived.Test.YtfepnknpfhiemaaGreatDoorRows
set_option linter.unusedVariables false
set_option linter.unusedSimpArgs false
set_option linter.defProp false
noncomputable section
open Option renaming some->Z,none->U
open Bool renaming true->O,false->Y
open Decidable renaming decide->J
open List renaming length->X
open Array renaming toList->V
open Go renaming Value->aj,World->aA,TypeId->aQ,Program->aZ,FuncId->cI
namespace Go.Proofs.YtfepnknpfhiemaaGreatDoor
open Go Go.RowKit Go.GxZ Go.Sort Go.Proofs Go.Shelf
variable {g:cI}
def XA(d:Nat)(h:d<4611686018427387904)(w:aA):Calls Tryz.prog 159 #[.int .u64 (d:Int)] w λ e w'=>e=.returned (.int .i64 (Lib.bitLen d:Nat))/\w'=w:=by
 have h:=Any.bits_Len (SlLaysF0.n15.bits (P:=Tryz.prog) (ρ:=Tryz.sortTrm_ren) {Tryz.sortTrm with}) (d:Int) w (by omega) (by omega)
 rwa [jT]at h
set_option maxHeartbeats 2000000 in
def sortVal_none(p:ab Addr)(cap:Nat)(w:aA):Calls Tryz.prog 144 #[.slice p 0 cap,.func (.func g) #[] #[]] w λ e w'=>e=.returned (.tuple #[])/\w'=w:=by
 have b:=λ a W=>AnyF.pdqsortCmpFunc_none (P:=Tryz.prog) (ρ:=Tryz.sortBnd_ren) Tryz.sortBnd p cap a (.func (.func g) #[] #[]) W;have c:=XA 0 (by decide)
 go_enter Tryz.func144,Tryz.ntmps144
 go_wp2_with (first|(go_at_call 159;apply (c _).mono;rintro e w' ⟨rfl,rfl⟩)|(go_at_call 182;apply (b _ _).mono;rintro e w' ⟨rfl,rfl⟩))
 go_end0
 exact⟨rfl,rfl⟩
set_option maxHeartbeats 2000000 in
set_option maxRecDepth 100000 in
def sortVal_eq(a:Nat->aa aj)(o:∀x,X (a x)=8)(p:∀x,∀v∈a x,v.oneCell'=O)(k:Nat->Nat->Int)(s:SWO (ltOf k))(b off cap:Nat)(d:aL Nat)(w:aA)(t:∀f w,(callFunc g f).run Tryz.prog w=.ok (.enter g f) w)(c:CmpLays Tryz.prog g #[] a 8 k b off d.size w)(m:HoldsK a 8 w b off d)(j:b<w.heap.size)(h:d.size<4611686018427387904):
  Calls Tryz.prog 144 #[.slice (Z ⟨b,off,U⟩) d.size cap,.func (.func g) #[] #[]] w λ e w'=>e=.returned (.tuple #[])/\∃n l,w'=sortWorldK a 8 w b off n (pdq (ltOf k) d 0 d.size (Lib.bitLen d.size) O O) l:=by
 have i:Lib.bitLen d.size<4611686018427387904:=Qs (Lib.bitLen_le d.size 62 (by omega) (by omega)) (by omega);have q:=AnyQ.pdqsortCmpFunc_all (P:=Tryz.prog) (ρ:=Tryz.sortBnd_ren) Tryz.sortBnd 8 Tryz.isAgg62 Tryz.sizeOf62 a k g #[] s b off cap d w t c ⟨o,p,m,j⟩ (d.size+1) 0 d.size (Lib.bitLen d.size) d w (by omega) rfl (SWK.start m) (aG _) (ak _) h i (Or.inl rfl);have r:=XA d.size h;have u:IntKind.u64.wrap (d.size:Int)=d.size:=by simp[IntKind.wrap,IntKind.bits,IntKind.signed];omega
 clear m c o p
 go_enter Tryz.func144,Tryz.ntmps144
 go_wp2_with (first|(go_at_call 159;apply (r _).mono;rintro e w' ⟨rfl,rfl⟩)|(go_at_call 182;apply q.mono;rintro e w' ⟨rfl,n,l,rfl⟩))
 go_end0
 exact⟨rfl,n,l,rfl⟩
end Go.Proofs.YtfepnknpfhiemaaGreatDoor
namespace Go.AmZ
open GxZ
section
set_option maxRecDepth 100000
open Go.Proofs.Tryz (func3 func11 func12 func13 func14 func15 func16 func17 func18 func19 func22 func24 func25 func29 func30 func31 func35 func38 func41 func42 func43 func44 func45 func46 func47 func48 func49 func50 func51 func52 func53 func54 func55 func56 func57 func58 func59 func60 func61 func62 func64 func65 func66 func67 func68 func70 func71 func72 func73 func75 func76 func77 func78 func79 func85 func87 func90 func91 func92 func93 func94 func95 func98 func99 func100 func101 func102 func103 func104 func105 func106 func107 func108 func109 func111 func112 func113 func114 func115 func116 func117 func118 func119 func120 func121 func122 func123 func124 func126 func127 func128 func129 func130 func131 func135 func137 func138 func139 func140 func141 func142 func143 func145 func146 func147 func148 func149 func150 func151 func154 func155 func156 func157 func160 func161 func162 func163 func164 func166 func167 func168 func169 func174 func175 func178 func180 func183 func184 func185 func186 func187 func189 func190 func191 func203 func204 func205 func206 func207 func208 func209 func211 func212 func213 func223 func225 func237 func238 func239 func241 func247 func248 func249 func250 func251 func252 func253 func254 func255 func256 func257 func273 func274 func275 func277 func278 func283 func284 func287 func288 func291)
def qcK(m:Nat)(h:cZ Go.Proofs.Tryz.prog (tb.at m).pc.cfg):cp Go.Proofs.Tryz.prog 110 (mgP ⟨.term,[.clo 106 0],λ x=>sF (m+1) x.1⟩):=qnw (τ:=.term) Go.Proofs.Tryz.sortTrm (λ _=>rfl) Go.Proofs.Tryz.isAgg47 Go.Proofs.Tryz.sizeOf47 (NY (τ:=.term) (ρ:=y6) (NL h (by kernel_rfl)) (F:=λ x y=>cW m x y) (by kernel_rfl) (λ _=>rfl)) (jc Go.Proofs.Tryz.func110 (by kernel_rfl)) (λ _ _ h=>h)
def qct(m:Nat)(h:cZ Go.Proofs.Tryz.prog (tb.at m).pc.cfg):cp Go.Proofs.Tryz.prog 144 (mgP ⟨y4,[.clo 145 0],λ x=>wc (m+1) x.1⟩):=Ua (τ:=y4) Go.Proofs.YtfepnknpfhiemaaGreatDoor.sortVal_none Go.Proofs.YtfepnknpfhiemaaGreatDoor.sortVal_eq (λ _=>rfl) (NY (τ:=y4) (ρ:=y6) (NL h (by kernel_rfl)) (F:=λ x y=>lF m x y) (by kernel_rfl) (λ _=>rfl)) (jc Go.Proofs.Tryz.func144 (by kernel_rfl)) (λ _ _ h=>h)
def qcx(m:Nat)(h:cZ Go.Proofs.Tryz.prog (tb.at m).pc.cfg):cp Go.Proofs.Tryz.prog 202 (sgP ⟨[.row .term,.clo 203 0],[.one (.row .term)],λ x=>we (m+1) x.1⟩):=qjV (NY (τ:=.term) (ρ:=.bool) (NL h (by kernel_rfl)) (F:=λ x y=>nF m x y) (by kernel_rfl) (λ _=>rfl)) (λ _ _ h=>qlB h)
theorem tb_ok:∀ m,cZ Go.Proofs.Tryz.prog (tb.at m).pc.cfg:=Tb.all_ok (by kernel_rfl) Y0 (by kernel_rfl) (nP func126 qhI (nP func70 qdP (nP func45 qkt (nP func24 qfk (nP func15 qhM (nP func12 qjC (nP func11 qhF (nP func3 qdR trivial trivial) trivial) (nP func14 qfy (nP func13 qeO trivial trivial) trivial)) (nP func18 qfr (nP func17 qd6 (nP func16 qiq trivial trivial) trivial) (nP func22 qes (nP func19 qjz trivial trivial) trivial))) (nP func38 qiw (nP func30 qki (nP func29 qid (nP func25 qfx trivial trivial) trivial) (nP func35 qgQ (nP func31 qh5 trivial trivial) trivial)) (nP func43 qf3 (nP func42 qhi (nP func41 qfJ trivial trivial) trivial) (nP func44 qj4 trivial trivial)))) (nP func57 qgI (nP func51 qkL (nP func48 qiz (nP func47 qfG (nP func46 qeJ trivial trivial) trivial) (nP func50 qfE (nP func49 qii trivial trivial) trivial)) (nP func54 qg8 (nP func53 qiI (nP func52 qf0 trivial trivial) trivial) (nP func56 qfF (nP func55 qht trivial trivial) trivial))) (nP func64 qhf (nP func60 qdM (nP func59 qg0 (nP func58 qkx trivial trivial) trivial) (nP func62 qjp (nP func61 qgM trivial trivial) trivial)) (nP func67 qeI (nP func66 qkj (nP func65 qgN trivial trivial) trivial) (nP func68 qfb trivial trivial))))) (nP func102 qg7 (nP func91 qet (nP func77 qfj (nP func73 qkv (nP func72 qi2 (nP func71 qij trivial trivial) trivial) (nP func76 qiE (nP func75 qjJ trivial trivial) trivial)) (nP func85 qgt (nS func79 qhB (nP func78 qin trivial trivial) trivial) (nP func90 qeL (nP func87 qgG trivial trivial) trivial))) ⟨qdb (m:=0),(nP func94 qc8 (nP func93 qe0 (nP func92 qf9 trivial trivial) trivial) ⟨qc9 (m:=0),(nS func95 qds trivial trivial),trivial⟩),(nP func100 qdo (nP func99 qdx (nP func98 qdH trivial trivial) trivial) (nP func101 qgl trivial trivial))⟩) ⟨⟨⟨func114,λ _=>rfl,qdL,⟨func114,λ _=>rfl,qdE,trivial⟩⟩,QK _ _⟩,(nS func108 qc6 (nP func105 qiT (nP func104 qjP (nP func103 qhn trivial trivial) trivial) (nP func107 qif (nP func106 qgb trivial trivial) trivial)) (nP func111 qhS ⟨⟨UM (jc Go.Proofs.Tryz.func110 (by kernel_rfl)) λ _=>rfl,λ m h=>qcK m h⟩,(nS func109 qdD trivial trivial),trivial⟩ (nP func113 qhN (nP func112 qfz trivial trivial) trivial))),(nS func120 qkc (nP func117 qcn (nP func116 qfo (nP func115 qfg trivial trivial) trivial) (nP func119 qiN (nP func118 qdv trivial trivial) trivial)) (nP func123 qi7 (nP func122 ql4 (nP func121 qjS trivial trivial) trivial) (nP func124 qhp trivial trivial)))⟩)) (nP func186 qiP ⟨qc5 (m:=0),(nP func142 qde (nP func135 qdq (nP func129 qiy (nP func128 qgh (nP func127 qfv trivial trivial) trivial) (nP func131 qiU (nP func130 qiR trivial trivial) trivial)) (nP func139 qeK (nP func138 qfB (nP func137 qh8 trivial trivial) trivial) (nP func141 qhm (nP func140 qjc trivial trivial) trivial))) (nP func148 qhK (nP func145 qdm ⟨⟨UM (jc Go.Proofs.Tryz.func144 (by kernel_rfl)) λ _=>rfl,λ m h=>qct m h⟩,(nS func143 qcW trivial trivial),trivial⟩ (nP func147 qgZ (nP func146 qhu trivial trivial) trivial)) (nP func151 qjo (nP func150 qj1 (nS func149 qi0 trivial trivial) trivial) ⟨λ c hc=>qd1 (m:=0) hc,trivial,trivial⟩))),(nP func167 qj2 (nS func161 qdz ⟨B4.2 ⟨⟨func156,λ _=>rfl,qcy⟩,B4.2 ⟨⟨func156,λ _=>rfl,qcB⟩,B4.2 ⟨⟨func156,λ _=>rfl,qcz⟩,λ _ h=>(sq h).elim⟩⟩⟩,(nS func155 qdT (nP func154 qff trivial trivial) trivial),(nS func160 qd5 (nP func157 qdn trivial trivial) trivial)⟩ (nP func164 qfp (nP func163 qgL (nS func162 qgH trivial trivial) trivial) (nP func166 qib ⟨λ c hc=>qed (m:=0) hc,trivial,trivial⟩ trivial))) (nS func180 qdV (nP func174 qhX (nP func169 qhk (nP func168 qiO trivial trivial) trivial) (nP func178 qdf (nP func175 qhl trivial trivial) trivial)) (nS func184 qhg (nP func183 qhR ⟨qcV (m:=0),trivial,trivial⟩ trivial) (nP func185 qj3 trivial trivial))))⟩ (nP func248 qjv (nP func209 qgd (nP func203 qfa (nP func190 qec (nP func189 qh0 (nP func187 qhr trivial trivial) trivial) ⟨⟨T6 (jc Go.Proofs.Tryz.func202 (by kernel_rfl)) λ _=>rfl,λ m h=>qcx m h⟩,⟨B4.2 ⟨⟨func191,λ _=>rfl,qcN⟩,B4.2 ⟨⟨func191,λ _=>rfl,qcT⟩,B4.2 ⟨⟨func191,λ _=>rfl,qcQ⟩,λ _ h=>(sq h).elim⟩⟩⟩,trivial,trivial⟩,trivial⟩) (nP func206 qlX (nP func205 qe3 (nP func204 qgz trivial trivial) trivial) (nP func208 qfA (nP func207 qhw trivial trivial) trivial))) (nP func237 qhC (nP func213 qgX (nP func212 qiK (nP func211 qeB trivial trivial) trivial) (nP func225 qdk (nP func223 qjg trivial trivial) trivial)) (nP func241 qfU (nP func239 qjA (nP func238 qhJ trivial trivial) trivial) (nP func247 qj8 trivial trivial)))) (nS func275 qew (nP func254 qe2 (nP func251 qmf (nP func250 qgf (nP func249 qkN trivial trivial) trivial) (nP func253 qeU (nS func252 qek trivial trivial) trivial)) (nP func257 qiJ (nP func256 qgi (nP func255 qf7 trivial trivial) trivial) (nP func274 qex (nP func273 qgK trivial trivial) trivial))) ⟨qc1 (m:=0),(nP func278 qeH (nS func277 qeo ⟨qc3 (m:=0),trivial,trivial⟩ trivial) (nP func284 qd0 (nP func283 qcq trivial trivial) trivial)),(nP func288 qd7 (nP func287 qcv ⟨qc2 (m:=0),trivial,trivial⟩ trivial) (nP func291 qcF trivial trivial))⟩))))
end
end Go.AmZ
namespace Go.GxZ
open Go.RowKit Go.ChangeShapes Go.WideShapes Go.ChangeAt
open Go.WideMaps Go.WideElems
section
variable {H:Type}{enc:aQ×aj->H}{P:aZ}
def SW(f:laidOutB P=O){W i:aA}(g:Below W.heap.size W i):∀{ts:aa aQ}{vs:aa aj}{ds:aa (DataW H)}{ps:aa MemPlace},
  (∀t∈ts,P.readableRec t=O/\t<P.types.size)->DataW.TrodAll enc P W 0 (λ _=>O) O ts vs ds ps->(∀x∈ps,x.block<W.heap.size)->
  DataW.TrodAll enc P i 0 (λ b=>J (b<W.heap.size)) O ts vs ds ps
 |[],[],[],_,_,h,_=>h
 |t::ts,v::vs,d::ds,_,e,⟨p,q,m,l,k⟩,a=>by
   subst k;refine⟨p,q,?_,?_,rfl⟩
   .exact Below.trod f (e t (aX ..)).1 (e t (aX ..)).2 m g λ x c=>a x (nC _ c)
   .exact SW f g (λ t j=>e t (aT _ j)) l λ x c=>a x (nA _ c)
 |[],[],_::_,_,_,h,_|[],_::_,_,_,_,h,_|_::_,[],_,_,_,h,_|_::_,_::_,[],_,_,h,_=>h.elim
def qpd{f:Func}{s:ChangeSpec}{b g a:Bool}{W A:aA}{d:aL aj}{ds k:aa (DataW H)}{c:aa MemPlace}{ts:aa aQ}{T:aQ}
  (E:laidOutB P=O) (m:V f.params=ts) (C:ts.all (λ t=>P.readableRec t&&J (t<P.types.size))=O) (u:s.vars=[])
  (n:f.resultTypes = #[T]) (G:P.underlying T=Z .bool)
  (y:DataW.Whole enc P (V f.params) s.vars b W (V d) ds k c)
  (i:(s.fn H (ds++k)).results=[.lit (.bool O)]) (e:(s.fn H (ds++k)).args=ds) (l:(s.fn H (ds++k)).vars=[])
  (w:Below W.heap.size W A):s.post enc P f b g a Y W d (.bool O) A:=by
 have j:=y;have o:=λ x B=>j.lt x B;obtain⟨p,q,I,z,rfl,F,D⟩:=y;rw[u]at z;have r:k=[]/\q=[]:=trodVars_none z;obtain⟨rfl,rfl⟩:=r;rw[bK]at *;refine⟨ds,[],p,[],p,[],?_,?_,?_,?_,?_,λ h=>by cases h⟩
 .exact j
 .rw[n,bK,i];exact trodAll_mk1 (shut_bool G _)
 .rw[bK,e];refine SW E w (ts:=V f.params) ?_ I o;intro t v;rw[m]at v;have:=bz.1 C t v;simpa using this
 .rw[bK,l,u];rfl
 .exact w.frame _
end
end Go.GxZ
namespace Go.Proofs.YtfepnknpfhiemaaGreatDoor
def Tryz.own:ownKnob Tryz.prog.godebug=U:=by kernel_rfl
def Tryz.laidOut:laidOutB Tryz.prog=O:=by kernel_rfl
end Go.Proofs.YtfepnknpfhiemaaGreatDoor
namespace Go.AmZ
open GxZ
section
open RowKit
def UR:∀(τ:Ty) (v:Val τ),gf τ (cx τ v)=Z v:=by
 intro τ v;have h:=jA τ v;cases τ<;>exact h
def N1:aa ATy->Bool
 |[]=>O
 |.val _::r=>N1 r
 |.fn::_=>Y
def Ti:∀(ts:aa ATy) (a:lf ts),N1 ts=O->oH ts (eQ ts a [])=Z a/\fU (eQ ts a [])=[]
 |[],_,_=>⟨rfl,rfl⟩
 |.val τ::r,a,h=>by
   let⟨d,c⟩:=Ti r a.2 h;constructor
   .show oZ (gf τ) (oH r) (cx τ a.1::eQ r a.2 [])=_;simp only[oZ,UR,d]
   .show fU (cx τ a.1::eQ r a.2 [])=[];have:=(zN (UR τ a.1)).2;cases b:cx τ a.1<;>first|exact c|exact absurd b (this _ _)
 |.fn::_,_,h=>by cases h
def law_calls{P:aZ}{f:cI}{c:TC}(o:cp P f (gg (cN c f))){ts:aa ATy}{fn:lf ts->ab (kz [.bool])}(q:c.pf f []=Z ⟨ts,[.bool],fn⟩)(m:N1 ts=O){a:lf ts}(h:fn a=Z O)
  {W:aA}{d:aa aj} (k:RepL (ghW W) (eQ ts a []) d):Calls P f d.toArray W λ e w'=>e=.returned (.bool O)/\Below W.heap.size W w':=by
 let⟨u,t⟩:=Ti ts a m
 have n:cN c f (eQ ts a [])=Z (.v (.bool O)):=by
  unfold cN;rw[t,q];simp only;rw[u];simp only;rw[h];rfl
 have l:gg (cN c f) emp (eQ ts a [])=Z (.v (.bool O),U):=by
  show(match cN c f (eQ ts a [])with|Z v=>Z (v,U)|U=>U)=_;rw[n]
 have:=o.2 (ghW W) emp W (eQ ts a []) d _ (qqp W) k l;apply Calls.mono this;rintro e w' ⟨v,Γ',rfl,g,_,j,_⟩;have h:=ce j;subst h;refine⟨rfl,g.os,g.tape,g.output,g.size,λ b s=>g.block b s ?_⟩;rintro(⟨i,p,_⟩|⟨r,k,_⟩)
 .exact absurd p (eY _)
 .exact absurd k (eY _)
def qkb{Γ:Gh}{τ:Ty}{x:Val τ}{v:aj}(h:RepL Γ (aI τ x) (V v.cells))(l:∀u∈V v.cells,u.oneCell'=O)(j:τ.agg=O->τ.size≠1)(e:τ.agg=Y->∀cs,v≠.agg cs):Rep Γ (cx τ x) v:=by
 have c:=h.len;rw[gR]at c
 have agg:cx τ x=.agg (aI τ x)->τ.agg=O->Rep Γ (cx τ x) v:=by
  intro f g;rw[f];have d:=j g;cases v with
  |agg cs=>exact .agg _ _ h.len l h.rep
  |_=>exact absurd (show τ.size=1 by rw[<-c];rfl) d
 have one:∀{y:AV},aI τ x=[y]->cx τ x=y->τ.agg=Y->Rep Γ (cx τ x) v:=by
  intro y f i g
  have k:v.cells = #[v]:=by
   cases v with
   |agg cs=>exact absurd rfl (e g cs)
   |_=>rfl
  rw[f,k]at h;rw[i];exact h.rep 0 y v rfl rfl
 cases τ with
 |term|pair a b|one a=>exact agg rfl rfl
 |_=>exact one rfl rfl rfl
open Go.ChangeShapes Go.WideShapes Go.ChangeAt Go.WideMaps Go.WideElems
def qqA{P:aZ}{n:Nat}{τ:Ty}{t:aQ}{W:aA}{cj:Nat}{v:aj}(c:tyM P n τ t=O)(f:Value.okWide P W .any cj t v):τ.agg=Y->∀cs,v≠.agg cs:=by
 intro g cs;cases n with
 |zero=>cases τ<;>simp[tyM]at c
 |succ n=>
 cases τ with
 |map a b=>simp[tyM]at c
 |int k=>
   simp only[tyM]at c;split at c
   .next d=>obtain⟨_,rfl⟩:=okWide_int d f;intro h;cases h
   .cases c
 |bool=>
   simp only[tyM]at c;split at c
   .next d=>obtain⟨_,rfl⟩:=okWide_bool d f;intro h;cases h
   .cases c
 |str=>
   simp only[tyM]at c;split at c
   .next d=>obtain⟨_,rfl⟩:=okWide_string d f;intro h;cases h
   .cases c
 |list a=>
   simp only[tyM]at c;split at c
   .next e d=>obtain⟨_,_,_,rfl⟩:=okWide_slice d f;intro h;cases h
   .cases c
 |_=>cases g
def arg_val{H:Type}{b:aQ×aj->H}{P:aZ}{W:aA}{n:Nat}{τ:Ty}{t:aQ}{v:aj}{d:DataW H}{ps:aa MemPlace}{cj:Nat}(c:tyM P n τ t=O)(g:τ.agg=O->τ.size≠1)(f:Value.okWide P W .any cj t v)
  (h:DataW.Trod b P W 0 (λ _=>O) O t v d ps) (e:∀k∈d.weights P t,k<=reachBytes):∃x:Val τ,Rep (ghW W) (cx τ x) v/\jI τ x/\szV τ x<=Go.Proofs.YtfepnknpfhiemaaGreatDoor.Rows.uptoBulk d:=by
 let⟨a,i⟩:=h;let⟨x,o,m,l,j⟩:=qpr a n τ t (V v.cells) (d,ps) c i e;exact⟨x,qkb o m g (qqA c f),l,j⟩
end
end Go.AmZ

/- Part 6 of what the proofs stand on: plain functions of the program, and that they are its functions. -/
import Derived.Test.YtfepnknpfhiemaaGreatDoorM4
import Derived.Test.YtfepnknpfhiemaaGreatDoorM5
import Derived.Shelf.SlSortCmp.NoneTotal
import Derived.Test.YtfepnknpfhiemaaGreatDoorM1
import Derived.ProofKit
import Derived.Test.YtfepnknpfhiemaaGreatDoorRows
set_option linter.unusedVariables false
set_option linter.unusedSimpArgs false
set_option linter.defProp false
noncomputable section
open Option renaming some->Z,none->U
open Bool renaming true->O,false->Y
open Decidable renaming decide->X
open List renaming length->J
open Array renaming toList->V
open Go renaming Value->aj,World->aC,TypeId->aQ,Program->ba,FuncId->cJ
namespace Go.Proofs.YtfepnknpfhiemaaGreatDoor
open Go Go.RowKit Go.GxZ Go.Sort Go.Proofs Go.Shelf
variable {g:cJ}
def YH(d:Nat)(h:d<4611686018427387904)(w:aC):Calls Tryz.prog 159 #[.int .u64 (d:Int)] w λ e w'=>e=.returned (.int .i64 (Lib.bitLen d:Nat))/\w'=w:=by
 have h:=Any.bits_Len (SlLaysF0.n15.bits (P:=Tryz.prog) (ρ:=Tryz.sortTrm_ren) {Tryz.sortTrm with}) (d:Int) w (by omega) (by omega)
 rwa [lG]at h
set_option maxHeartbeats 2000000 in
def sortVal_none(p:ac Addr)(cap:Nat)(w:aC):Calls Tryz.prog 144 #[.slice p 0 cap,.func (.func g) #[] #[]] w λ e w'=>e=.returned (.tuple #[])/\w'=w:=by
 have b:=λ a W=>AnyF.pdqsortCmpFunc_none (P:=Tryz.prog) (ρ:=Tryz.sortBnd_ren) Tryz.sortBnd p cap a (.func (.func g) #[] #[]) W;have c:=YH 0 (by decide)
 go_enter Tryz.func144,Tryz.ntmps144
 go_wp2_with (first|(go_at_call 159;apply (c _).mono;rintro e w' ⟨rfl,rfl⟩)|(go_at_call 182;apply (b _ _).mono;rintro e w' ⟨rfl,rfl⟩))
 go_end0
 exact⟨rfl,rfl⟩
set_option maxHeartbeats 2000000 in
set_option maxRecDepth 100000 in
def sortVal_eq(a:Nat->aa aj)(o:∀x,J (a x)=8)(p:∀x,∀v∈a x,v.oneCell'=O)(k:Nat->Nat->Int)(s:SWO (ltOf k))(b off cap:Nat)(d:aL Nat)(w:aC)(t:∀f w,(callFunc g f).run Tryz.prog w=.ok (.enter g f) w)(c:CmpLays Tryz.prog g #[] a 8 k b off d.size w)(m:HoldsK a 8 w b off d)(j:b<w.heap.size)(h:d.size<4611686018427387904):
  Calls Tryz.prog 144 #[.slice (Z ⟨b,off,U⟩) d.size cap,.func (.func g) #[] #[]] w λ e w'=>e=.returned (.tuple #[])/\∃n l,w'=sortWorldK a 8 w b off n (pdq (ltOf k) d 0 d.size (Lib.bitLen d.size) O O) l:=by
 have i:Lib.bitLen d.size<4611686018427387904:=QM (Lib.bitLen_le d.size 62 (by omega) (by omega)) (by omega);have q:=AnyQ.pdqsortCmpFunc_all (P:=Tryz.prog) (ρ:=Tryz.sortBnd_ren) Tryz.sortBnd 8 Tryz.isAgg62 Tryz.sizeOf62 a k g #[] s b off cap d w t c ⟨o,p,m,j⟩ (d.size+1) 0 d.size (Lib.bitLen d.size) d w (by omega) rfl (SWK.start m) (aG _) (au _) h i (Or.inl rfl);have r:=YH d.size h;have u:IntKind.u64.wrap (d.size:Int)=d.size:=by simp[IntKind.wrap,IntKind.bits,IntKind.signed];omega
 clear m c o p
 go_enter Tryz.func144,Tryz.ntmps144
 go_wp2_with (first|(go_at_call 159;apply (r _).mono;rintro e w' ⟨rfl,rfl⟩)|(go_at_call 182;apply q.mono;rintro e w' ⟨rfl,n,l,rfl⟩))
 go_end0
 exact⟨rfl,n,l,rfl⟩
end Go.Proofs.YtfepnknpfhiemaaGreatDoor
namespace Go.AmZ
open GxZ
section
set_option maxRecDepth 100000
open Go.Proofs.Tryz (func9 func11 func12 func13 func14 func18 func19 func22 func24 func25 func27 func28 func29 func30 func33 func35 func36 func37 func38 func41 func42 func43 func44 func45 func46 func47 func48 func49 func50 func55 func56 func57 func58 func59 func60 func61 func62 func64 func65 func66 func67 func68 func70 func71 func72 func74 func75 func76 func77 func80 func85 func87 func90 func91 func92 func93 func94 func95 func98 func99 func100 func101 func102 func105 func106 func107 func108 func109 func111 func112 func113 func114 func115 func116 func117 func118 func119 func120 func121 func122 func123 func124 func125 func126 func127 func128 func129 func132 func135 func137 func138 func139 func140 func141 func142 func143 func145 func146 func147 func148 func149 func150 func151 func154 func155 func156 func157 func160 func161 func162 func163 func164 func166 func167 func168 func169 func170 func171 func172 func173 func174 func175 func176 func178 func180 func183 func184 func185 func186 func187 func189 func190 func191 func203 func204 func205 func206 func207 func208 func209 func211 func212 func213 func214 func215 func216 func217 func218 func219 func220 func221 func222 func223 func224 func225 func237 func238 func239 func241 func247 func248 func249 func250 func251 func252 func253 func254 func255 func256 func257 func258 func259 func260 func261 func262 func263 func264 func273 func274 func275 func277 func278 func279 func283 func284 func287 func288 func291)
def qdF(m:Nat)(h:db Go.Proofs.Tryz.prog (tb.at m).pc.cfg):cq Go.Proofs.Tryz.prog 110 (mgP ⟨.term,[.clo 106 0],λ x=>tk (m+1) x.1⟩):=qo7 (τ:=.term) Go.Proofs.Tryz.sortTrm (λ _=>rfl) Go.Proofs.Tryz.isAgg47 Go.Proofs.Tryz.sizeOf47 (Oa (τ:=.term) (ρ:=y6) (Nz h (by kernel_rfl)) (F:=λ x y=>cZ m x y) (by kernel_rfl) (λ _=>rfl)) (jm Go.Proofs.Tryz.func110 (by kernel_rfl)) (λ _ _ h=>h)
def qdm(m:Nat)(h:db Go.Proofs.Tryz.prog (tb.at m).pc.cfg):cq Go.Proofs.Tryz.prog 144 (mgP ⟨y5,[.clo 145 0],λ x=>wy (m+1) x.1⟩):=Vq (τ:=y5) Go.Proofs.YtfepnknpfhiemaaGreatDoor.sortVal_none Go.Proofs.YtfepnknpfhiemaaGreatDoor.sortVal_eq (λ _=>rfl) (Oa (τ:=y5) (ρ:=y6) (Nz h (by kernel_rfl)) (F:=λ x y=>lI m x y) (by kernel_rfl) (λ _=>rfl)) (jm Go.Proofs.Tryz.func144 (by kernel_rfl)) (λ _ _ h=>h)
def qdq(m:Nat)(h:db Go.Proofs.Tryz.prog (tb.at m).pc.cfg):cq Go.Proofs.Tryz.prog 202 (sgP ⟨[.row .term,.clo 203 0],[.one (.row .term)],λ x=>wA (m+1) x.1⟩):=qmc (Oa (τ:=.term) (ρ:=.bool) (Nz h (by kernel_rfl)) (F:=λ x y=>nM m x y) (by kernel_rfl) (λ _=>rfl)) (λ _ _ h=>qnv h)
theorem tb_ok:∀ m,db Go.Proofs.Tryz.prog (tb.at m).pc.cfg:=Tb.all_ok (by kernel_rfl) qag (by kernel_rfl) (nP func145 qej (nP func85 qhl (nP func47 qgj (nP func29 qj7 (nP func19 qlF (nP func13 qf1 (nP func11 qjJ (nP func9 qeG trivial trivial) (nP func12 qlU trivial trivial)) (nP func18 qgF (nP func14 qgA trivial trivial) trivial)) (nP func25 qgq (nP func24 qgE (nP func22 qfl trivial trivial) trivial) (nP func28 qis (nP func27 qhv trivial trivial) trivial))) (nP func41 qgI (nP func36 qkc (nP func33 qfm (nP func30 qlv trivial trivial) (nP func35 qhh trivial trivial)) (nP func38 qkV (nP func37 qjh trivial trivial) trivial)) (nP func44 qli (nP func43 qgG (nP func42 qit trivial trivial) trivial) (nP func46 qfg (nP func45 qlc trivial trivial) trivial)))) (nP func65 qh5 (nP func58 qlO (nP func55 qjp (nP func49 qki (nP func48 qkQ trivial trivial) (nP func50 qg4 trivial trivial)) (nP func57 qht (nP func56 qgm trivial trivial) trivial)) (nP func61 qhV (nP func60 qeP (nP func59 qhu trivial trivial) trivial) (nP func64 qiq (nP func62 qlg trivial trivial) trivial))) (nP func72 qjY (nP func68 qfK (nP func67 qfj (nP func66 qlJ trivial trivial) trivial) (nP func71 qjV (nP func70 qeO trivial trivial) trivial)) (nP func76 qj3 (nP func75 ql1 (nP func74 qhx trivial trivial) trivial) (nP func80 qiF (nP func77 qgW trivial trivial) trivial))))) (nP func115 qfH (nP func101 qhz (nS func95 qeq (nP func92 qik (nP func90 qfQ (nP func87 qhX trivial trivial) (nP func91 qfu trivial trivial)) (nP func94 qd1 (nP func93 qfS trivial trivial) trivial)) (nP func98 qeC ⟨qd4 (m:=0),⟨qd2 (m:=0),trivial,trivial⟩,trivial⟩ (nP func100 qek (nP func99 qer trivial trivial) trivial))) (nS func109 qeA (nP func106 qhK (nP func105 qkA (nP func102 qjm trivial trivial) trivial) (nS func108 qdY (nP func107 qjW trivial trivial) trivial)) (nP func112 qgn (nP func111 qjo ⟨⟨V8 (jm Go.Proofs.Tryz.func110 (by kernel_rfl)) λ _=>rfl,λ m h=>qdF m h⟩,trivial,trivial⟩ trivial) ⟨⟨⟨func114,λ _=>rfl,qev,⟨func114,λ _=>rfl,qeB,trivial⟩⟩,Q3 _ _⟩,(nP func113 qi3 trivial trivial),trivial⟩))) (nP func128 qhU (nP func122 qne (nP func119 qkZ (nP func117 qdg (nP func116 qha trivial trivial) (nP func118 qeu trivial trivial)) (nP func121 qlW (nS func120 qlP trivial trivial) trivial)) (nP func125 qhr (nP func124 qjF (nP func123 qkJ trivial trivial) trivial) (nP func127 qhb (nP func126 qiH trivial trivial) trivial))) (nP func139 qgg (nP func135 qee (nP func132 qgJ (nP func129 qk1 trivial trivial) trivial) (nP func138 qgh (nP func137 qiQ trivial trivial) trivial)) (nP func142 qd8 (nP func141 qiA (nP func140 qkY trivial trivial) trivial) ⟨⟨V8 (jm Go.Proofs.Tryz.func144 (by kernel_rfl)) λ _=>rfl,λ m h=>qdm m h⟩,(nS func143 qdO trivial trivial),trivial⟩))))) (nP func212 qkf (nP func172 qgx (nS func160 qeU ⟨λ c hc=>qeS (m:=0) hc,(nS func149 qkh (nP func147 qhs (nP func146 qjD trivial trivial) (nP func148 qiI trivial trivial)) (nP func151 qk9 (nP func150 qlq trivial trivial) trivial)),(nS func155 qeQ (nP func154 qgb ⟨qdZ (m:=0),trivial,trivial⟩ trivial) (nP func157 qeg ⟨BP.2 ⟨⟨func156,λ _=>rfl,qdr⟩,BP.2 ⟨⟨func156,λ _=>rfl,qds⟩,BP.2 ⟨⟨func156,λ _=>rfl,qdt⟩,λ _ h=>(sX h).elim⟩⟩⟩,trivial,trivial⟩ trivial))⟩ (nP func166 qkS (nP func163 qhq (nS func162 qif (nS func161 qen trivial trivial) trivial) ⟨λ c hc=>qe8 (m:=0) hc,(nP func164 qgQ trivial trivial),trivial⟩) (nP func169 qjr (nP func168 qkj (nP func167 qlH trivial trivial) trivial) (nP func171 qlE (nP func170 qgT trivial trivial) trivial)))) (nP func189 qix ⟨qdR (m:=0),(nP func176 qj5 (nP func174 qjw (nP func173 qiP trivial trivial) (nP func175 qiW trivial trivial)) (nS func180 qeL (nP func178 qd9 trivial trivial) trivial)),(nP func185 qlm (nS func184 qir (nP func183 qiD trivial trivial) trivial) (nP func187 qjx (nP func186 qku trivial trivial) trivial))⟩ (nP func205 qfM ⟨⟨UT (jm Go.Proofs.Tryz.func202 (by kernel_rfl)) λ _=>rfl,λ m h=>qdq m h⟩,⟨BP.2 ⟨⟨func191,λ _=>rfl,qdG⟩,BP.2 ⟨⟨func191,λ _=>rfl,qdJ⟩,BP.2 ⟨⟨func191,λ _=>rfl,qdM⟩,λ _ h=>(sX h).elim⟩⟩⟩,(nP func190 qe6 trivial trivial),trivial⟩,(nP func204 qhY (nP func203 qge trivial trivial) trivial)⟩ (nP func208 qgi (nP func207 qjv (nP func206 qnr trivial trivial) trivial) (nP func211 qfq (nP func209 qhF trivial trivial) trivial))))) (nP func254 qfG (nP func225 qeb (nP func219 qjR (nP func216 qkC (nP func214 qmW (nP func213 qhi trivial trivial) (nP func215 qjb trivial trivial)) (nP func218 qf7 (nP func217 qkp trivial trivial) trivial)) (nP func222 qlB (nP func221 qkR (nP func220 qmu trivial trivial) trivial) (nP func224 qjQ (nP func223 qjN trivial trivial) trivial))) (nP func248 qld (nP func239 qle (nP func238 qjj (nP func237 qja trivial trivial) trivial) (nP func247 qlS (nP func241 qgK trivial trivial) trivial)) (nP func251 qmZ (nP func250 qhO (nP func249 qmt trivial trivial) trivial) (nP func253 qfZ (nS func252 qfd trivial trivial) trivial)))) (nS func275 qfx (nP func261 qiS (nP func258 qhJ (nP func256 qhQ (nP func255 qhP trivial trivial) (nP func257 qkq trivial trivial)) (nS func260 qgv (nP func259 qiV trivial trivial) trivial)) (nP func264 qgS (nS func263 qlD (nP func262 qf0 trivial trivial) trivial) (nP func274 qfi (nP func273 qic trivial trivial) trivial))) (nP func284 qe0 (nP func278 qfA (nS func277 qfs ⟨qdW (m:=0),trivial,trivial⟩ trivial) (nP func283 qdk (nP func279 qgB trivial trivial) trivial)) (nP func287 qdo ⟨qdU (m:=0),⟨qdV (m:=0),trivial,trivial⟩,trivial⟩ (nP func291 qdy (nP func288 qe1 trivial trivial) trivial)))))))
end
end Go.AmZ
namespace Go.GxZ
open Go.RowKit Go.ChangeShapes Go.WideShapes Go.ChangeAt
open Go.WideMaps Go.WideElems
section
variable {H:Type}{enc:aQ×aj->H}{P:ba}
def Tj(f:laidOutB P=O){W i:aC}(g:Below W.heap.size W i):∀{ts:aa aQ}{vs:aa aj}{ds:aa (DataW H)}{ps:aa MemPlace},
  (∀t∈ts,P.readableRec t=O/\t<P.types.size)->DataW.TrodAll enc P W 0 (λ _=>O) O ts vs ds ps->(∀x∈ps,x.block<W.heap.size)->
  DataW.TrodAll enc P i 0 (λ b=>X (b<W.heap.size)) O ts vs ds ps
 |[],[],[],_,_,h,_=>h
 |t::ts,v::vs,d::ds,_,e,⟨p,q,m,l,k⟩,a=>by
   subst k;refine⟨p,q,?_,?_,rfl⟩
   .exact Below.trod f (e t (bj ..)).1 (e t (bj ..)).2 m g λ x c=>a x (pC _ c)
   .exact Tj f g (λ t j=>e t (bk _ j)) l λ x c=>a x (pB _ c)
 |[],[],_::_,_,_,h,_|[],_::_,_,_,_,h,_|_::_,[],_,_,_,h,_|_::_,_::_,[],_,_,h,_=>h.elim
def qqs{f:Func}{s:ChangeSpec}{b g a:Bool}{W A:aC}{d:aL aj}{ds k:aa (DataW H)}{c:aa MemPlace}{ts:aa aQ}{T:aQ}
  (E:laidOutB P=O) (m:V f.params=ts) (C:ts.all (λ t=>P.readableRec t&&X (t<P.types.size))=O) (u:s.vars=[])
  (n:f.resultTypes = #[T]) (G:P.underlying T=Z .bool)
  (y:DataW.Whole enc P (V f.params) s.vars b W (V d) ds k c)
  (i:(s.fn H (ds++k)).results=[.lit (.bool O)]) (e:(s.fn H (ds++k)).args=ds) (l:(s.fn H (ds++k)).vars=[])
  (w:Below W.heap.size W A):s.post enc P f b g a Y W d (.bool O) A:=by
 have j:=y;have o:=λ x B=>j.lt x B;obtain⟨p,q,I,z,rfl,F,D⟩:=y;rw[u]at z;have r:k=[]/\q=[]:=trodVars_none z;obtain⟨rfl,rfl⟩:=r;rw[bJ]at *;refine⟨ds,[],p,[],p,[],?_,?_,?_,?_,?_,λ h=>by cases h⟩
 .exact j
 .rw[n,bJ,i];exact trodAll_mk1 (shut_bool G _)
 .rw[bJ,e];refine Tj E w (ts:=V f.params) ?_ I o;intro t v;rw[m]at v;have:=bB.1 C t v;simpa using this
 .rw[bJ,l,u];rfl
 .exact w.frame _
end
end Go.GxZ
namespace Go.Proofs.YtfepnknpfhiemaaGreatDoor
def Tryz.own:ownKnob Tryz.prog.godebug=U:=by kernel_rfl
def Tryz.laidOut:laidOutB Tryz.prog=O:=by kernel_rfl
end Go.Proofs.YtfepnknpfhiemaaGreatDoor
namespace Go.AmZ
open GxZ
section
open RowKit
def Wl:∀(τ:Ty) (v:Val τ),gi τ (cy τ v)=Z v:=by
 intro τ v;have h:=jE τ v;cases τ<;>exact h
def Ob:aa ATy->Bool
 |[]=>O
 |.val _::r=>Ob r
 |.fn::_=>Y
def T8:∀(ts:aa ATy) (a:ll ts),Ob ts=O->oS ts (eV ts a [])=Z a/\fW (eV ts a [])=[]
 |[],_,_=>⟨rfl,rfl⟩
 |.val τ::r,a,h=>by
   let⟨d,c⟩:=T8 r a.2 h;constructor
   .show pu (gi τ) (oS r) (cy τ a.1::eV r a.2 [])=_;simp only[pu,Wl,d]
   .show fW (cy τ a.1::eV r a.2 [])=[];have:=(zw (Wl τ a.1)).2;cases b:cy τ a.1<;>first|exact c|exact absurd b (this _ _)
 |.fn::_,_,h=>by cases h
def law_calls{P:ba}{f:cJ}{c:TC}(o:cq P f (gk (cS c f))){ts:aa ATy}{fn:ll ts->ac (kG [.bool])}(q:c.pf f []=Z ⟨ts,[.bool],fn⟩)(m:Ob ts=O){a:ll ts}(h:fn a=Z O)
  {W:aC}{d:aa aj} (k:RepL (ghW W) (eV ts a []) d):Calls P f d.toArray W λ e w'=>e=.returned (.bool O)/\Below W.heap.size W w':=by
 let⟨u,t⟩:=T8 ts a m
 have n:cS c f (eV ts a [])=Z (.v (.bool O)):=by
  unfold cS;rw[t,q];simp only;rw[u];simp only;rw[h];rfl
 have l:gk (cS c f) emp (eV ts a [])=Z (.v (.bool O),U):=by
  show(match cS c f (eV ts a [])with|Z v=>Z (v,U)|U=>U)=_;rw[n]
 have:=o.2 (ghW W) emp W (eV ts a []) d _ (qsa W) k l;apply Calls.mono this;rintro e w' ⟨v,Γ',rfl,g,_,j,_⟩;have h:=ce j;subst h;refine⟨rfl,g.os,g.tape,g.output,g.size,λ b s=>g.block b s ?_⟩;rintro(⟨i,p,_⟩|⟨r,k,_⟩)
 .exact absurd p (fe _)
 .exact absurd k (fe _)
def qlf{Γ:Gh}{τ:Ty}{x:Val τ}{v:aj}(h:RepL Γ (aH τ x) (V v.cells))(l:∀u∈V v.cells,u.oneCell'=O)(j:τ.agg=O->τ.size≠1)(e:τ.agg=Y->∀cs,v≠.agg cs):Rep Γ (cy τ x) v:=by
 have c:=h.len;rw[gY]at c
 have agg:cy τ x=.agg (aH τ x)->τ.agg=O->Rep Γ (cy τ x) v:=by
  intro f g;rw[f];have d:=j g;cases v with
  |agg cs=>exact .agg _ _ h.len l h.rep
  |_=>exact absurd (show τ.size=1 by rw[<-c];rfl) d
 have one:∀{y:AV},aH τ x=[y]->cy τ x=y->τ.agg=Y->Rep Γ (cy τ x) v:=by
  intro y f i g
  have k:v.cells = #[v]:=by
   cases v with
   |agg cs=>exact absurd rfl (e g cs)
   |_=>rfl
  rw[f,k]at h;rw[i];exact h.rep 0 y v rfl rfl
 cases τ with
 |term|pair a b|one a=>exact agg rfl rfl
 |_=>exact one rfl rfl rfl
open Go.ChangeShapes Go.WideShapes Go.ChangeAt Go.WideMaps Go.WideElems
def qsw{P:ba}{n:Nat}{τ:Ty}{t:aQ}{W:aC}{ci:Nat}{v:aj}(c:tyM P n τ t=O)(f:Value.okWide P W .any ci t v):τ.agg=Y->∀cs,v≠.agg cs:=by
 intro g cs;cases n with
 |zero=>cases τ<;>simp[tyM]at c
 |succ n=>
 cases τ with
 |map a b=>simp[tyM]at c
 |int k=>
   simp only[tyM]at c;split at c
   .next d=>obtain⟨_,rfl⟩:=okWide_int d f;intro h;cases h
   .cases c
 |bool=>
   simp only[tyM]at c;split at c
   .next d=>obtain⟨_,rfl⟩:=okWide_bool d f;intro h;cases h
   .cases c
 |str=>
   simp only[tyM]at c;split at c
   .next d=>obtain⟨_,rfl⟩:=okWide_string d f;intro h;cases h
   .cases c
 |list a=>
   simp only[tyM]at c;split at c
   .next e d=>obtain⟨_,_,_,rfl⟩:=okWide_slice d f;intro h;cases h
   .cases c
 |_=>cases g
def arg_val{H:Type}{b:aQ×aj->H}{P:ba}{W:aC}{n:Nat}{τ:Ty}{t:aQ}{v:aj}{d:DataW H}{ps:aa MemPlace}{ci:Nat}(c:tyM P n τ t=O)(g:τ.agg=O->τ.size≠1)(f:Value.okWide P W .any ci t v)
  (h:DataW.Trod b P W 0 (λ _=>O) O t v d ps) (e:∀k∈d.weights P t,k<=reachBytes):∃x:Val τ,Rep (ghW W) (cy τ x) v/\kF τ x/\szV τ x<=Go.Proofs.YtfepnknpfhiemaaGreatDoor.Rows.uptoBulk d:=by
 let⟨a,i⟩:=h;let⟨x,o,m,l,j⟩:=qqR a n τ t (V v.cells) (d,ps) c i e;exact⟨x,qlf o m g (qsw c f),l,j⟩
end
end Go.AmZ

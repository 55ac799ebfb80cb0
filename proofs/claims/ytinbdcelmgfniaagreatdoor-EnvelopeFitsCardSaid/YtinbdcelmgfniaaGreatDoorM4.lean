/- Part 4 of what the proofs stand on: plain functions of the program, and that they are its functions. -/
import Derived.Test.YtinbdcelmgfniaaGreatDoorM3
import Derived.KernelRfl
import Derived.Test.YtinbdcelmgfniaaGreatDoorProg
import Derived.Shelf.SlSortCmp.NoneTotal
import Derived.Laws.OwnMore
import Derived.Deep.DeepAppendRoom
import Derived.ArgAppend
import Derived.Test.YtinbdcelmgfniaaGreatDoorM2
import Derived.IntWalk
import Derived.Lib.Bytealg
set_option linter.unusedVariables false
set_option linter.unusedSimpArgs false
noncomputable section
namespace Go.Proofs.YtinbdcelmgfniaaGreatDoor
open Go.RowKit Go.GxZ Go.BigFrame
theorem qHH:(Tryz.prog.info? 25).map (λ i=>(i.zero,i.size,i.bytes))=some (some (.agg #[.int .i64 0,.string ⟨#[]⟩,.int .i64 0,.slice none 0 0]),4,56):=by kernel_rfl
set_option maxHeartbeats 4000000 in
set_option maxRecDepth 100000 in
theorem clone_anyTrm(w:World)(p:Option Addr)(n c:Nat)(xs:List Value)(f:xs.length=n*4)(x:n=0\/∃ad,p=some ad/\∀j u,xs[j]?=some u->w.cell? (ad.add j)=some u)(z:∀u∈xs,u.oneCell'=true)(S:n<=100000000):
  Calls Tryz.prog 23 #[.slice p n c] w λ e w'=>∃v,e=.returned v/\AmZ.Fresh w 4 n xs v w':=by
 cases p with
 |none=>
   have i:n=0:=by
    obtain h|⟨ad,h,_⟩:=x
    .exact h
    .cases h
   subst i;clear x z f;have G:∀w,(binOp .eql 23 (.slice none 0 c) (.slice none 0 0)).run Tryz.prog w=.ok (.bool true) w:=λ w=>by rw[Lib.run_eql_slice_nil w 23 25 none 0 c 0 0 Tryz.underlying23];rfl
   go_enter Tryz.func23,Tryz.ntmps23
   go_wp2_with fail
   go_ret
   exact⟨_,rfl,Below.refl _ _,wa _,.inl ⟨rfl,_,rfl⟩⟩
 |some ad=>
   let⟨R,k,o,m,l⟩:=info_parts qHH;have s:Below w.heap.size w (w.alloc (.cells #[] 25)):=(Below.refl _ _).alloc (wa _) _;by_cases i:n=0
   .subst i;have F:∀ty,(Builtin.append_ #[23,23] ty #[.slice (some ⟨w.heap.size,0,none⟩) 0 0,.slice (some ad) 0 c]).run Tryz.prog (w.alloc (.cells #[] 25))=.ok (.slice (some ⟨w.heap.size,0,none⟩) 0 0) (w.alloc (.cells #[] 25)):=λ ty=>run_append_nothing _ 23 23 ty 25 _ Tryz.underlying23 k (some ⟨w.heap.size,0,none⟩) 0 0 (wa _) _ (Src.ofSlice _ Tryz.underlying23 ad 0 c [] (by simp) (λ _ _ h=>by simp at h) (λ _ h=>by simp at h));have E:=Lib.hid F;have Q:=Lib.hid s;clear F x z f s k o m l;have G:∀w,(binOp .eql 23 (.slice (some ad) 0 c) (.slice none 0 0)).run Tryz.prog w=.ok (.bool false) w:=λ w=>by rw[Lib.run_eql_slice_nil w 23 25 (some ad) 0 c 0 0 Tryz.underlying23];rfl
    go_enter Tryz.func23,Tryz.ntmps23
    go_wp2_with (at_builtin;refine Lib.wpList_append_run _ rfl _ _ _ _ rfl _ _ rfl rfl _ _ (E.out _) ?_)
    go_ret
    exact⟨_,rfl,Q.out,wa _,.inl ⟨rfl,_,rfl⟩⟩
   .have b:∀j u,xs[j]?=some u->(w.alloc (.cells #[] 25)).cell? (ad.add j)=some u:=λ j u r=>by
      obtain h|⟨N,h,K⟩:=x
      .exact absurd h i
      .cases h;have y:=K j u r
       have B:(ad.add j).block<w.heap.size:=by
        unfold World.cell? at y;split at y
        .rename_i L;exact(Array.getElem?_eq_some_iff.1 L).1
        .cases y
       rw[show(w.alloc (.cells #[] 25)).cell? _=w.cell? _ from World.cell?_of_block (s.block _ B)];exact y
    have t:∀ty,∃g a d w',(Builtin.append_ #[23,23] ty #[.slice (some ⟨w.heap.size,0,none⟩) 0 0,.slice (some ad) n c]).run Tryz.prog (w.alloc (.cells #[] 25))=.ok (.slice (some ⟨g,0,none⟩) (0+n) a) w'/\Below (w.alloc (.cells #[] 25)).heap.size (w.alloc (.cells #[] 25)) w'/\(w.alloc (.cells #[] 25)).heap.size<=g/\w'.heap[g]?=some (.cells d 25 (0,0))/\0+n<=a/\d.size=a*4/\d.toList.take ((0+n)*4)=[]++xs/\(w.alloc (.cells #[] 25)).drawn<=w'.drawn:=
     λ ty=>AmZ.grow_any (P:=Tryz.prog) (w:=w.alloc (.cells #[] 25)) (ty:=ty) Tryz.underlying23 k o m l rfl (some ⟨w.heap.size,0,none⟩) 0 0 (λ h=>by cases h) [] (by simp) (λ _ _ j u h=>by simp at h) _ n xs (Src.ofSlice _ Tryz.underlying23 ad n c xs f b z) (by omega) (by unfold maxLen;omega) (by omega)
    let⟨g,a,d,w',D,J,g3,I,C,H,A,M⟩:=t 23;rw[wG]at D C A;rw[xc]at A;have E:=Lib.hid D;have q:w.heap.size<=(w.alloc (.cells #[] 25)).heap.size:=s.size
    have O:Hid (AmZ.Fresh w 4 n xs (.slice (some ⟨g,0,none⟩) n a) w'):=by
     refine⟨s.trans (J.mono q),M,.inr ⟨g,a,d,_,rfl,wz q g3,I,C,vw H.symm,λ j u r=>?_⟩⟩;rw[<-A,List.getElem?_take]at r;split at r
     .rw[<-Array.getElem?_toList];exact r
     .cases r
    clear s b t D J g3 I C H A q x z f k o m l;have G:∀w,(binOp .eql 23 (.slice (some ad) n c) (.slice none 0 0)).run Tryz.prog w=.ok (.bool false) w:=λ w=>by rw[Lib.run_eql_slice_nil w 23 25 (some ad) n c 0 0 Tryz.underlying23];rfl
    go_enter Tryz.func23,Tryz.ntmps23
    go_wp2_with (at_builtin;refine Lib.wpList_append_run _ rfl _ _ _ _ rfl _ _ rfl rfl _ _ E.out ?_)
    go_ret
    exact⟨_,rfl,O.out⟩
set_option maxHeartbeats 4000000 in
set_option maxRecDepth 100000 in
theorem grow_nilTrm(w:World)(n:Nat)(z:n<=100000000):
  Calls Tryz.prog 193 #[.slice none 0 0,.int .i64 n] w λ e w'=>∃v,e=.returned v/\AmZ.Fresh w 4 0 [] v w':=by
 by_cases r:n=0
 .subst r;have l:IntKind.i64.wrap ((0:Int)-0)=(0:Int):=IntWalk.i64_in _ (by omega)
  go_enter Tryz.func193,Tryz.ntmps193
  go_wp2_with fail
  go_ret
  exact⟨_,rfl,Below.refl _ _,wa _,.inl ⟨rfl,_,rfl⟩⟩
 let⟨o,h,f,d,c⟩:=info_parts qHH;have b:(Builtin.firstCells o.size 0 (.slice none 0 0)).run Tryz.prog w.drew=.ok (([]:List Value)).toArray w.drew:=run_firstCells_none ..;have k:∀ty,_:=λ ty=>Lib.run_append_grow_zeros w 23 3 ty 25 o _ .i64 .i64 Tryz.underlying23 Tryz.underlying3 h f none 0 0 [] b n (by omega) (by rw[d];decide) (by omega) (by omega) (by rw[c];omega) (by rw[wG,c];exact growslice_fits (by omega) (by omega));rw[wG]at k;obtain⟨i,a⟩:∃N:Array Value,N=([]:List Value).toArray++Builtin.zeroCells (Value.cells (.agg #[.int .i64 0,.string ⟨#[]⟩,.int .i64 0,.slice none 0 0])) n++Builtin.zeroCells (Value.cells (.agg #[.int .i64 0,.string ⟨#[]⟩,.int .i64 0,.slice none 0 0])) (grownCap w n 0 25-n):=⟨_,rfl⟩
 rw[<-a]at k;have m:n<=grownCap w n 0 25:=grownCap_ge w _ _ _
 have g:grownCap w n 0 25*4<=i.size:=by
  rw[a,xJ,xJ,size_zeroCells,size_zeroCells,show(Value.cells (.agg #[.int .i64 0,.string ⟨#[]⟩,.int .i64 0,.slice none 0 0])).size=4 from rfl,kr,wT];have:n*4+(grownCap w n 0 25-n)*4=grownCap w n 0 25*4:=by rw[<-wU];congr 1;omega
  omega
 have y:=Lib.hid k;have x:=Lib.hid g;have l:IntKind.i64.wrap ((0:Int)-0)=(0:Int):=IntWalk.i64_in _ (by omega);have q:IntKind.i64.wrap ((n:Int)-0)=(n:Int):=by rw[IntWalk.i64_in _ (by omega)];omega
 have p:(0:Int)<(n:Int):=by omega
 generalize t:grownCap w n 0 25=G at *;clear b k a g h f d c t m
 go_enter Tryz.func193,Tryz.ntmps193
 go_wp2_with (at_builtin;refine Lib.wpList_append_run _ rfl _ _ _ _ rfl _ _ rfl rfl _ _ (y.out _) ?_)
 all_goals
  go_ret
  exact⟨_,rfl,((Below.refl _ _).alloc (wa _) _).drew,ke _,.inr ⟨w.heap.size,G,i,_,rfl,wa _,heap_alloc_new w _,wg _,x.out,λ j u s=>by simp at s⟩⟩
end Go.Proofs.YtinbdcelmgfniaaGreatDoor
namespace Go.Proofs.YtinbdcelmgfniaaGreatDoor
open Go.RowKit Go.GxZ Go.BigFrame
theorem qSp:(Tryz.prog.info? 106).map (λ i=>(i.zero,i.size,i.bytes))=some (some (.agg #[.int .i64 0,.string ⟨#[]⟩,.int .i64 0,.slice none 0 0,.int .i64 0,.string ⟨#[]⟩,.int .i64 0,.slice none 0 0]),8,112):=by kernel_rfl
set_option maxHeartbeats 4000000 in
set_option maxRecDepth 100000 in
theorem clone_anyUp(w:World)(p:Option Addr)(n c:Nat)(xs:List Value)(f:xs.length=n*8)(x:n=0\/∃ad,p=some ad/\∀j u,xs[j]?=some u->w.cell? (ad.add j)=some u)(z:∀u∈xs,u.oneCell'=true)(S:n<=100000000):
  Calls Tryz.prog 188 #[.slice p n c] w λ e w'=>∃v,e=.returned v/\AmZ.Fresh w 8 n xs v w':=by
 cases p with
 |none=>
   have i:n=0:=by
    obtain h|⟨ad,h,_⟩:=x
    .exact h
    .cases h
   subst i;clear x z f;have G:∀w,(binOp .eql 107 (.slice none 0 c) (.slice none 0 0)).run Tryz.prog w=.ok (.bool true) w:=λ w=>by rw[Lib.run_eql_slice_nil w 107 106 none 0 c 0 0 Tryz.underlying107];rfl
   go_enter Tryz.func188,Tryz.ntmps188
   go_wp2_with fail
   go_ret
   exact⟨_,rfl,Below.refl _ _,wa _,.inl ⟨rfl,_,rfl⟩⟩
 |some ad=>
   let⟨R,k,o,m,l⟩:=info_parts qSp;have s:Below w.heap.size w (w.alloc (.cells #[] 106)):=(Below.refl _ _).alloc (wa _) _;by_cases i:n=0
   .subst i;have F:∀ty,(Builtin.append_ #[107,107] ty #[.slice (some ⟨w.heap.size,0,none⟩) 0 0,.slice (some ad) 0 c]).run Tryz.prog (w.alloc (.cells #[] 106))=.ok (.slice (some ⟨w.heap.size,0,none⟩) 0 0) (w.alloc (.cells #[] 106)):=λ ty=>run_append_nothing _ 107 107 ty 106 _ Tryz.underlying107 k (some ⟨w.heap.size,0,none⟩) 0 0 (wa _) _ (Src.ofSlice _ Tryz.underlying107 ad 0 c [] (by simp) (λ _ _ h=>by simp at h) (λ _ h=>by simp at h));have E:=Lib.hid F;have Q:=Lib.hid s;clear F x z f s k o m l;have G:∀w,(binOp .eql 107 (.slice (some ad) 0 c) (.slice none 0 0)).run Tryz.prog w=.ok (.bool false) w:=λ w=>by rw[Lib.run_eql_slice_nil w 107 106 (some ad) 0 c 0 0 Tryz.underlying107];rfl
    go_enter Tryz.func188,Tryz.ntmps188
    go_wp2_with (at_builtin;refine Lib.wpList_append_run _ rfl _ _ _ _ rfl _ _ rfl rfl _ _ (E.out _) ?_)
    go_ret
    exact⟨_,rfl,Q.out,wa _,.inl ⟨rfl,_,rfl⟩⟩
   .have b:∀j u,xs[j]?=some u->(w.alloc (.cells #[] 106)).cell? (ad.add j)=some u:=λ j u r=>by
      obtain h|⟨N,h,K⟩:=x
      .exact absurd h i
      .cases h;have y:=K j u r
       have B:(ad.add j).block<w.heap.size:=by
        unfold World.cell? at y;split at y
        .rename_i L;exact(Array.getElem?_eq_some_iff.1 L).1
        .cases y
       rw[show(w.alloc (.cells #[] 106)).cell? _=w.cell? _ from World.cell?_of_block (s.block _ B)];exact y
    have t:∀ty,∃g a d w',(Builtin.append_ #[107,107] ty #[.slice (some ⟨w.heap.size,0,none⟩) 0 0,.slice (some ad) n c]).run Tryz.prog (w.alloc (.cells #[] 106))=.ok (.slice (some ⟨g,0,none⟩) (0+n) a) w'/\Below (w.alloc (.cells #[] 106)).heap.size (w.alloc (.cells #[] 106)) w'/\(w.alloc (.cells #[] 106)).heap.size<=g/\w'.heap[g]?=some (.cells d 106 (0,0))/\0+n<=a/\d.size=a*8/\d.toList.take ((0+n)*8)=[]++xs/\(w.alloc (.cells #[] 106)).drawn<=w'.drawn:=
     λ ty=>AmZ.grow_any (P:=Tryz.prog) (w:=w.alloc (.cells #[] 106)) (ty:=ty) Tryz.underlying107 k o m l rfl (some ⟨w.heap.size,0,none⟩) 0 0 (λ h=>by cases h) [] (by simp) (λ _ _ j u h=>by simp at h) _ n xs (Src.ofSlice _ Tryz.underlying107 ad n c xs f b z) (by omega) (by unfold maxLen;omega) (by omega)
    let⟨g,a,d,w',D,J,g3,I,C,H,A,M⟩:=t 107;rw[wG]at D C A;rw[xc]at A;have E:=Lib.hid D;have q:w.heap.size<=(w.alloc (.cells #[] 106)).heap.size:=s.size
    have O:Hid (AmZ.Fresh w 8 n xs (.slice (some ⟨g,0,none⟩) n a) w'):=by
     refine⟨s.trans (J.mono q),M,.inr ⟨g,a,d,_,rfl,wz q g3,I,C,vw H.symm,λ j u r=>?_⟩⟩;rw[<-A,List.getElem?_take]at r;split at r
     .rw[<-Array.getElem?_toList];exact r
     .cases r
    clear s b t D J g3 I C H A q x z f k o m l;have G:∀w,(binOp .eql 107 (.slice (some ad) n c) (.slice none 0 0)).run Tryz.prog w=.ok (.bool false) w:=λ w=>by rw[Lib.run_eql_slice_nil w 107 106 (some ad) n c 0 0 Tryz.underlying107];rfl
    go_enter Tryz.func188,Tryz.ntmps188
    go_wp2_with (at_builtin;refine Lib.wpList_append_run _ rfl _ _ _ _ rfl _ _ rfl rfl _ _ E.out ?_)
    go_ret
    exact⟨_,rfl,O.out⟩
end Go.Proofs.YtinbdcelmgfniaaGreatDoor
namespace Go.AmZ
open Go Go.RowKit Go.GxZ
theorem qBv{P:Program}{c:TC}{f:FuncId}(o:qg0 P f)(h:∀i g,c.pf f i=some g->∀a v,g.fn a=some v->∀Γ w b,Inv Γ emp w->RepL Γ (Qv g.args a i) b->Jm P Γ emp w f b (zY (qbg g.res v),none)):qT P f (JB (jC c f)):=by
 refine⟨o,λ Γ σ w j b r m l e=>?_⟩;unfold JB at e;split at e<;>try cases e
 split at e<;>cases e;rename_i z d;unfold jC at d;split at d<;>try cases d
 rename_i g n;split at d<;>try cases d
 rename_i a p;split at d<;>cases d;rename_i v k;exact h _ g n a v k Γ w b m ((qns g.args p).rep l)
theorem qJU{P:Program}{f:FuncId}{Γ:Gh}{w:World}{a:List Value}{x:Value}(g:Inv Γ emp w)(d:zk x=true)(h:Calls P f a.toArray w λ e w'=>e=.returned x/\Below w.heap.size w w'/\w.drawn<=w'.drawn):Jm P Γ emp w f a (.v x,none):=by
 refine Calls.mono h ?_;rintro e w' ⟨rfl,c,b⟩;exact⟨x,Γ,rfl,qhh c b,g.later c,.v x d,.refl _⟩
def strings_Compare(m:Nat)(a b:List UInt8):Option Int:=some (Lib.compareBytes a b)
theorem qpY{m:Nat}{c:TC}(l:∀h,c.pf 116 h=qzy h [] (some ⟨[.val .str,.val .str],[.int .i64],λ x=>strings_Compare m x.1 x.2.1⟩) none):qT Go.Proofs.Tryz.prog 116 (JB (jC c 116)):=by
 refine qBv (QO Go.Proofs.Tryz.func116 (by kernel_rfl)) λ h g b a v j Γ w i k e=>?_;rw[l]at b;obtain⟨rfl,b⟩|b:=qBk b
 .cases b;cases j;obtain⟨u1,o,rfl,f,e⟩:=e.uncons;obtain⟨u2,n,rfl,d,e⟩:=e.uncons;have:=e.nil_inv;subst this;have f:=zp f;have d:=zp d;subst f;subst d;refine qJU k rfl ?_;exact(Go.Proofs.Tryz.strings_Compare _ _ w).mono λ _ _ ⟨f,d⟩=>⟨f,by rw[d];exact Below.refl _ _,by rw[d];exact wa _⟩
 .cases b
abbrev qJc:Ty:=.pair .str (.pair (.int .i64) (.pair (.int .i64) (.int .i64)))
def qPK:List (Val qJc):=[([112,97,105,114],2,2,1),([101,110,99],2,2,1),([97,101,110,99],2,2,1),([112,107],1,1,1),([115,105,103,110],2,2,1),([104,97,115,104],1,1,1),([120,111,114],2,8,1),([122,101,114,111],0,0,1),([101,120,112],2,2,1),([109,117,108],2,8,1),([105,110,118],1,1,1),([111,110,101],0,0,1),([115,107],1,1,2),([115,104,107],2,2,2),([110,101,119],1,8,2),([102,115,116],1,1,3),([115,110,100],1,1,3),([100,101,99],2,2,3),([97,100,101,99],2,2,3),([111,112,101,110],2,2,3),([114,101,97,100],1,1,3)]
def qiC(m:Nat):Option (List (List UInt8×Int×Int×Int)):=some qPK
def qPt:Cfg:=⟨tyT,λ f=>cond (Nat.beq f 104) (some Go.Proofs.Tryz.f104) (cond (Nat.beq f 132) (some Go.Proofs.Tryz.f132) none),λ _=>none,λ _=>false,λ _=>[],λ _=>true,λ _=>none⟩
theorem qGW(a:Code):Qf a=true:=by
 induction a<;>simp_all [Qf]
theorem qIB:yr Go.Proofs.Tryz.prog qPt:=by
 refine⟨by kernel_rfl,qKS,λ f fn h=>?_,(λ f p h=>by cases h),λ f fn h=>by cases h⟩;have h:cond (Nat.beq f 104) (some Go.Proofs.Tryz.f104) (cond (Nat.beq f 132) (some Go.Proofs.Tryz.f132) none)=some fn:=h;have c:∀d:Code,Qf d=true:=qGW;cases b:Nat.beq f 104 with
 |true=>
   rw[b]at h;cases h;rw[wm b];exact⟨Go.Proofs.Tryz.func104,by kernel_rfl,λ _ _=>c _⟩
 |false=>
   rw[b]at h;cases a:Nat.beq f 132 with
   |true=>
     rw[a]at h;cases h;rw[wm a];exact⟨Go.Proofs.Tryz.func132,by kernel_rfl,λ _ _=>c _⟩
   |false=>rw[a]at h;cases h
theorem qOM:qbV qPt (Q6 qPt 300) emp 104 []=some (zY (qbg [.list qJc] qPK),none):=by kernel_rfl
theorem qq7{m:Nat}{c:TC}(j:∀d,c.pf 104 d=qzy d [] (some ⟨[],[.list qJc],λ x=>qiC m⟩) none):qT Go.Proofs.Tryz.prog 104 (JB (jC c 104)):=by
 refine qBv (QO Go.Proofs.Tryz.func104 (by kernel_rfl)) λ d g b a v f Γ w e i h=>?_;rw[j]at b;obtain⟨rfl,b⟩|b:=qBk b
 .cases b;cases f;exact qC4 qIB (qy3 qIB 300) i h qOM
 .cases b
def yb(m:Nat)(l:List T):Option (Unit×List T×Unit):=cond (Nat.ble l.length 100000000) (some ((),l,())) none
def yX(m:Nat)(n:Int):Option (Unit×List T×Unit):=cond (inb n 100000000) (some ((),[],())) none
def zH(m:Nat)(l:List (T×Int))(i:Int)(v:List (T×Int)):Option (Unit×List (T×Int)×Unit):=cond (inb i l.length&&(Nat.ble l.length 100000&&Nat.beq v.length 1)) (some ((),l.take i.toNat++(v++l.drop i.toNat),())) none
def zG(m:Nat)(l:List (T×Int))(i j:Int):Option (Unit×List (T×Int)×Unit):=cond (inb j l.length&&(inb i l.length&&(ieq j (qf i 1)&&Nat.ble l.length 100000))) (some ((),l.take i.toNat++l.drop (i.toNat+1),())) none
theorem qik{α:Type}{b:Bool}{x:α}{r:α}(h:cond b (some x) none=some r):b=true/\x=r:=by
 cases b with
 |true=>exact⟨rfl,kz h⟩
 |false=>cases h
theorem qfe{m:Nat}:qT Go.Proofs.Tryz.prog 23 (sgP ⟨[.val (.list .term)],[.one (.row .term)],λ x=>yb m x.1⟩):=by
 refine qxK (a:=.term) (QO Go.Proofs.Tryz.func23 (by kernel_rfl)) (most:=100000000) Go.Proofs.YtinbdcelmgfniaaGreatDoor.clone_anyTrm (fn:=yb m) λ l r h=>?_;let⟨c,b⟩:=qik h;exact⟨kG c,b.symm⟩
def jb(m:Nat)(l:List (T×T)):Option (Unit×List (T×T)×Unit):=cond (Nat.ble l.length 100000000) (some ((),l,())) none
theorem qdQ{m:Nat}:qT Go.Proofs.Tryz.prog 188 (sgP ⟨[.val (.list (.pair .term .term))],[.one (.row (.pair .term .term))],λ x=>jb m x.1⟩):=by
 refine qxK (a:=.pair .term .term) (QO Go.Proofs.Tryz.func188 (by kernel_rfl)) (most:=100000000) Go.Proofs.YtinbdcelmgfniaaGreatDoor.clone_anyUp (fn:=jb m) λ l r h=>?_;let⟨c,b⟩:=qik h;exact⟨kG c,b.symm⟩
theorem qf3{m:Nat}:qT Go.Proofs.Tryz.prog 193 (sgP ⟨[.nil,.val (.int .i64)],[.one (.row .term)],λ x=>yX m x.1⟩):=by
 refine qL1 (a:=.term) (QO Go.Proofs.Tryz.func193 (by kernel_rfl)) (most:=100000000) Go.Proofs.YtinbdcelmgfniaaGreatDoor.grow_nilTrm (fn:=yX m) λ n r h=>?_;let⟨b,c⟩:=qik h;have b:=of_decide_eq_true b;exact⟨b.1,b.2,c.symm⟩
theorem qTs:qom Go.Proofs.Tryz.prog (.pair .term (.int .i64)) 134 157 64:=⟨by
 have h:(match yQ Go.Proofs.Tryz.prog 134 with|some ⟨_,_,_,_,.slice e k b z⟩=>Nat.beq e 157&&(Nat.beq k 5&&(Nat.beq b 64&&Nat.beq z.length 5))|_=>false)=true:=by kernel_rfl
 split at h
 .rename_i l j i g e k b z m;simp only[wc]at h;let⟨f,d,c,a⟩:=h;have f:=wm f;have d:=wm d;have c:=wm c;have a:=wm a;subst f;subst d;subst c;exact⟨l,j,i,g,z,m,a⟩
 .cases h⟩
theorem qd5{m:Nat}:qT Go.Proofs.Tryz.prog 225 (sgP ⟨[.row (.pair .term (.int .i64)),.val (.int .i64),.val (.list (.pair .term (.int .i64)))],[.one (.row (.pair .term (.int .i64)))],λ x=>zH m x.1 x.2.1 x.2.2.1⟩):=by
 refine qNl (a:=.pair .term (.int .i64)) (QO Go.Proofs.Tryz.func225 (by kernel_rfl)) qTs (by decide) Go.Proofs.YtinbdcelmgfniaaGreatDoor.insert_endPow Go.Proofs.YtinbdcelmgfniaaGreatDoor.insert_roomPow Go.Proofs.YtinbdcelmgfniaaGreatDoor.insert_growPow (fn:=zH m) λ l i v r h=>?_;let⟨c,g⟩:=qik h;simp only[wc,Nat.beq_eq_true_eq]at c;let⟨b,f,d⟩:=c;have b:=of_decide_eq_true b;refine⟨?_,b.1,b.2,kG f,g.symm⟩
 match v,d with
 |[e],_=>exact⟨e,rfl⟩
theorem qd6{m:Nat}:qT Go.Proofs.Tryz.prog 226 (sgP ⟨[.row (.pair .term (.int .i64)),.val (.int .i64),.val (.int .i64)],[.one (.row (.pair .term (.int .i64)))],λ x=>zG m x.1 x.2.1 x.2.2.1⟩):=by
 refine qNb (a:=.pair .term (.int .i64)) (QO Go.Proofs.Tryz.func226 (by kernel_rfl)) Go.Proofs.YtinbdcelmgfniaaGreatDoor.delete_onePow (fn:=zG m) λ l i j r h=>?_;let⟨e,g⟩:=qik h;simp only[wc]at e;let⟨d,c,b,f⟩:=e;have d:=of_decide_eq_true d;have c:=of_decide_eq_true c;have b:j=i+1:=by simpa[ieq,qf]using b
 refine⟨b,c.1,?_,kG f,g.symm⟩;omega
end Go.AmZ
namespace Go.AmZ
open Go Go.RowKit Go.GxZ
structure FI where
 fn:Func
 args:List ATy
 res:List Ty
 loop:List (Nat×List (Tmp×Co))
 ld:List Nat
 F:Nat->qed args->Option (qg4 res)
structure SI where
 fn:Func
 args:List SA
 res:List RE
 loop:List (Nat×List (Tmp×Co))
 ld:List Nat
 F:Nat->qaJ args->Option (J4 args×RV res)
inductive En where
 |pure (l:List (List Nat×FI))
 |st (i:SI)
 |hp (g:Sig)
 |hs (g:qrp)
 |hx (g:Nat->qrp)
 |hm (g:Nat->quY)
 |hk (g:Nat->qyZ)
 |il (fn:Func)
inductive Tr where
 |leaf
 |node (k:Nat) (l r:Tr) (x:En)
def Tr.get:Tr->Nat->Option En
 |.leaf,_=>none
 |.node k l r x,f=>match Nat.beq f k with
   |true=>some x
   |false=>match Nat.blt f k with
     |true=>Tr.get l f
     |false=>Tr.get r f
def qtx(a:List Nat):List (List Nat×FI)->Option FI
 |[]=>none
 |p::r=>match qrz p.1 a with
   |true=>some p.2
   |false=>qtx a r
def qKI(r:Nat):List (Nat×List (Tmp×Co))->Option (List (Tmp×Co))
 |[]=>none
 |p::l=>match Nat.beq p.1 r with
   |true=>some p.2
   |false=>qKI r l
structure Tb where
 ty:Nat->Option TD
 el:Nat->Option Ty
 tr:Tr
def Tb.has(b:Tb)(f:Nat):Bool:=match b.tr.get f with
 |some (.pure _)|some (.hp _)=>true
 |_=>false
def Tb.pf(b:Tb)(m f:Nat)(a:List Nat):Option Sig:=match b.tr.get f with
 |some (.pure l)=>match qtx a l with
   |some i=>some ⟨i.args,i.res,i.F m⟩
   |none=>none
 |some (.hp g)=>qzy a [] (some g) none
 |_=>none
def Tb.sf(b:Tb)(m f:Nat):Option qrp:=match b.tr.get f with
 |some (.st i)=>some ⟨i.args,i.res,i.F m⟩
 |some (.hs g)=>some g
 |some (.hx g)=>some (g m)
 |_=>none
def Tb.mf(b:Tb)(m f:Nat):Option quY:=match b.tr.get f with
 |some (.hm g)=>some (g m)
 |_=>none
def Tb.xf(b:Tb)(m f:Nat):Option qyZ:=match b.tr.get f with
 |some (.hk g)=>some (g m)
 |_=>none
def Tb.inl(b:Tb)(f:Nat):Option Func:=match b.tr.get f with
 |some (.il fn)=>some fn
 |_=>none
def Tb.tc(b:Tb)(m:Nat)(d:List (Nat×List (Tmp×Co)))(a c:Nat)(e:List Nat):TC:=⟨b.ty,b.el,b.has,b.pf m,b.sf m,λ r=>qKI r d,λ _=>none,a,c,λ f=>qPI f e,b.mf m,b.xf m,b.inl⟩
def Tb.runP(b:Tb)(m:Nat)(i:FI)(k:Nat)(a:List It)(E:Env)(σ:TS):Option (qg4 i.res):=
 qqE (b.tc m i.loop i.fn.ntmps 0 i.ld) (qke (b.tc m i.loop i.fn.ntmps 0 i.ld) i.res i.fn.results.toList) qv4 k a E σ
def Tb.runS(b:Tb)(m:Nat)(i:SI)(k:Nat)(a:List It)(E:Env)(σ:TS):Option (J4 i.args×RV i.res):=
 qqE (b.tc m i.loop i.fn.ntmps (qD2 i.args) i.ld) (qyy (b.tc m i.loop i.fn.ntmps (qD2 i.args) i.ld) i.args i.res i.fn.results.toList) qv4 k a E σ
def Tb.runP1(b:Tb)(m:Nat)(i:FI)(c:List Nat)(a:qed i.args):Option (qg4 i.res):=b.runP m i (m+1) [.code (qs2 i.fn)] (qfA 0 (qzZ i.args a c)) ⟨[],[]⟩
def Tb.runS1(b:Tb)(m:Nat)(i:SI)(a:qaJ i.args):Option (J4 i.args×RV i.res):=b.runS m i (m+1) [.code (qs2 i.fn)] (qfA 0 (qmh i.args 0 0 a)) ⟨sBx i.args 0 a,sRw i.args a⟩
def Tb.PL(b:Tb)(i:FI)(r:Nat)(m k:Nat)(E:Env)(σ:TS):Option (qg4 i.res):=b.runP m i k (stL i.fn r) E σ
def Tb.QL(b:Tb)(i:SI)(r:Nat)(m k:Nat)(E:Env)(σ:TS):Option (J4 i.args×RV i.res):=b.runS m i k (stL i.fn r) E σ
def Tb.at(b:Tb)(m:Nat):TC:=b.tc m [] 0 0 []
theorem qTv{α:Type}{M:Nat->α}{z:α}{s:α->α}(c:z=M 0)(b:∀k,M (k+1)=s (M k))(k:Nat):qPs z s k=M k:=by
 induction k with
 |zero=>exact c
 |succ k a=>rw[b,<-a];rfl
def fnB(fn:Func)(n:Nat):Bool:=J6 fn&&Nat.ble n fn.ntmps
def En.ok:En->Bool
 |.pure l=>l.all λ p=>fnB p.2.fn p.2.args.length
 |.st i=>fnB i.fn i.args.length
 |.il fn=>J6 fn
 |_=>true
def Tr.ok:Tr->Bool
 |.leaf=>true
 |.node _ l r x=>x.ok&&(l.ok&&r.ok)
def qxi(P:Program)(b:Tb)(f:Nat)(l:List (List Nat×FI)):Prop:=match l with
 |[]=>True
 |p::r=>P.funcs[f]?=some p.2.fn/\(∀a,p.2.F 0 a=none)/\(∀m a,p.2.F (m+1) a=b.runP1 m p.2 p.1 a)/\qxi P b f r
def En.prog(P:Program)(b:Tb)(f:Nat):En->Prop
 |.pure l=>qxi P b f l/\l≠[]
 |.st i=>P.funcs[f]?=some i.fn/\(∀a,i.F 0 a=none)/\∀m a,i.F (m+1) a=b.runS1 m i a
 |.hp g=>∀c:TC,(∀d,c.pf f d=qzy d [] (some g) none)->qT P f (JB (jC c f))
 |.hs g=>qT P f (sgP g)
 |.hx g=>qT P f (sgP (g 0))/\∀m,yr P (b.at m).pc.cfg->qT P f (sgP (g (m+1)))
 |.hm g=>qT P f (mgP (g 0))/\∀m,yr P (b.at m).pc.cfg->qT P f (mgP (g (m+1)))
 |.il fn=>P.funcs[f]?=some fn
 |.hk g=>qT P f (xgP (g 0))/\∀m,yr P (b.at m).pc.cfg->qT P f (xgP (g (m+1)))
def Tr.prog(P:Program)(b:Tb):Tr->Prop
 |.leaf=>True
 |.node k l r x=>x.prog P b k/\l.prog P b/\r.prog P b
theorem Tr.get_spec{P:Program}{b:Tb}:∀{t:Tr}{f:Nat}{x:En},t.get f=some x->t.ok=true->t.prog P b->x.ok=true/\x.prog P b f
 |.leaf,f,x,h,_,_=>by cases h
 |.node k l r y,f,x,h,a,⟨i,d,c⟩=>by
   simp only[Tr.ok,wc]at a;let⟨j,g,e⟩:=a;simp only[Tr.get]at h;split at h
   .grind [Nat.eq_of_beq_eq_true]
   .split at h
    .exact Tr.get_spec h g d
    .exact Tr.get_spec h e c
theorem qAZ{a:List Nat}:∀{l:List (List Nat×FI)}{i:FI},qtx a l=some i->(a,i)∈l
 |[],i,h=>by cases h
 |p::r,i,h=>by
   simp only[qtx]at h;split at h
   .grind [qrE,List.mem_cons_self]
   .exact we _ (qAZ h)
theorem qxi.mem{P:Program}{b:Tb}{f:Nat}:∀{l:List (List Nat×FI)}{p:List Nat×FI},qxi P b f l->p∈l->P.funcs[f]?=some p.2.fn/\(∀a,p.2.F 0 a=none)/\(∀m a,p.2.F (m+1) a=b.runP1 m p.2 p.1 a)
 |[],p,_,h=>by cases h
 |q::r,p,⟨g,e,d,c⟩,h=>by
   obtain rfl|h:=wv.1 h
   .exact⟨g,e,d⟩
   .exact qxi.mem c h
theorem qx7{fn:Func}(h:J6 fn=true):fn.body=some (qs2 fn):=by
 grind [J6,qs2]
theorem qp0{fn:Func}{n:Nat}(h:fnB fn n=true):J6 fn=true/\n<=fn.ntmps:=by
 simp_all [fnB]
theorem qNW{P:Program}{d:PC}(w:yr P d.cfg){l:TC}{f:FuncId}{fn:Func}(t:P.funcs[f]?=some fn)(m:J6 fn=true)
  (h:∀n g,l.pf f n=some g->∃c:TC,{c.pc with pur:=d.pur,ld:=d.ld}=d/\c.nt=fn.ntmps/\c.np=0/\g.args.length<=fn.ntmps/\∃N k,∀a,g.fn a=qqE c (qke c g.res fn.results.toList) N k [.code (qs2 fn)] (qfA 0 (qzZ g.args a n)) ⟨[],[]⟩):qT P f (JB (jC l f)):=by
 refine qLw w t m (jC l f) λ ys r b=>?_;unfold jC at b;split at b<;>try cases b
 rename_i g s;split at b<;>try cases b
 rename_i a u;split at b<;>cases b;rename_i v q;let⟨c,e,i,j,y,N,k,x⟩:=h _ g s;refine⟨Qv g.args a (qf6 ys),_,c.pc.pur,c.pc.ld,qns g.args u,λ z p=>p,?_⟩;rw[<-e];exact qTk (qx7 m) i j (by rw[qm8];exact y) (qpR g.args a (qf6 ys)) (by rw[<-x a];exact q)
theorem Tb.has_pf{b:Tb}{m f:Nat}{a:List Nat}{g:Sig}(h:b.pf m f a=some g):(∃l i,b.tr.get f=some (.pure l)/\qtx a l=some i/\g=⟨i.args,i.res,i.F m⟩)\/(∃c,b.tr.get f=some (.hp c)):=by
 grind [Tb.pf]
theorem Tb.all_ok{P:Program}{b:Tb}(G:P.follows .mixedOrders=true)(N:∀t d,b.ty t=some d->yQ P t=some d)(n:b.tr.ok=true)(k:b.tr.prog P b):∀m,yr P (b.at m).pc.cfg:=by
 have x:∀{c:TC}{g:Sig}{f m:Nat},c.pf=b.pf m->b.tr.get f=some (.hp g)->qT P f (JB (jC c f)):=by
  intro c g f m T j;refine(Tr.get_spec j n k).2 c λ s=>?_;rw[T];unfold Tb.pf;rw[j]
 have w:∀{m:Nat}{f:Nat},(b.at m).has f=true->(∃l,b.tr.get f=some (.pure l))\/∃g,b.tr.get f=some (.hp g):=by
  intro m f h;have h:b.has f=true:=h;grind [Tb.has]
 have B:∀{m:Nat}{f:Nat}{g:qrp},(b.at m).sf f=some g->(∃i,b.tr.get f=some (.st i)/\g=⟨i.args,i.res,i.F m⟩)\/b.tr.get f=some (.hs g)\/∃h,b.tr.get f=some (.hx h)/\g=h m:=by
  intro m f g h;have h:b.sf m f=some g:=h;grind [Tb.sf]
 have C:∀{m:Nat}{f:Nat}{g:quY},(b.at m).mf f=some g->∃h,b.tr.get f=some (.hm h)/\g=h m:=by
  intro m f g h;have h:b.mf m f=some g:=h;grind [Tb.mf]
 have A:∀{m:Nat}{f:Nat}{g:qyZ},(b.at m).xf f=some g->∃h,b.tr.get f=some (.hk h)/\g=h m:=by
  intro m f g h;have h:b.xf m f=some g:=h;grind [Tb.xf]
 have D:∀{m f:Nat}{fn:Func},(b.at m).inl f=some fn->P.funcs[f]?=some fn/\J6 fn=true:=by
  intro m f fn h;have h:b.inl f=some fn:=h;unfold Tb.inl at h;split at h<;>cases h;have:=Tr.get_spec (by assumption) n k;exact⟨this.2,this.1⟩
 have o:∀{f:Nat}{l:List (List Nat×FI)},b.tr.get f=some (.pure l)->∃fn,P.funcs[f]?=some fn/\J6 fn=true/\∀s i,qtx s l=some i->i.fn=fn/\i.args.length<=fn.ntmps/\(∀a,i.F 0 a=none)/\∀m a,i.F (m+1) a=b.runP1 m i s a:=by
  intro f l v;let⟨y,q⟩:=Tr.get_spec v n k;let⟨q,z⟩:=q;have y:=ww.1 (show l.all _=true from y);cases l with
  |nil=>exact absurd rfl z
  |cons p r=>
    refine⟨p.2.fn,(q.mem (wh ..)).1,(qp0 (y p (wh ..))).1,λ s i H=>?_⟩;have G:=qAZ H;let⟨e1,W,V⟩:=q.mem G;have X:=(q.mem (wh ..)).1;rw[X]at e1;have R:p.2.fn=i.fn:=kz e1;refine⟨R.symm,?_,W,V⟩;rw[R];exact(qp0 (y _ G)).2
 intro m
 induction m with
 |zero=>
   refine qKX G N (λ f I=>?_) (λ f g j=>?_) (λ f g j=>?_) (λ f g j=>?_) λ f fn h=>D h
   .obtain⟨l,v⟩|⟨g,j⟩:=w I
    .let⟨fn,M,L,Q⟩:=o v;refine qLc (QO M L) λ s g a h=>?_;have h:b.pf 0 f s=some g:=h;obtain⟨S,i,u,O,rfl⟩|⟨U,u⟩:=Tb.has_pf h
     .grind
     .rw[v]at u;cases u
    .exact x rfl j
   .obtain⟨i,H,rfl⟩|e:=B j
    .let⟨y,q,z,_⟩:=Tr.get_spec H n k;exact qpq (QO q (qp0 y).1) z
    .obtain e|⟨h,e,rfl⟩:=e
     .exact(Tr.get_spec e n k).2
     .exact(Tr.get_spec e n k).2.1
   .obtain⟨h,e,rfl⟩:=C j;exact(Tr.get_spec e n k).2.1
   .obtain⟨h,e,rfl⟩:=A j;exact(Tr.get_spec e n k).2.1
 |succ m E=>
   refine qKX G N (λ f I=>?_) (λ f g j=>?_) (λ f g j=>?_) (λ f g j=>?_) λ f fn h=>D h
   .obtain⟨l,v⟩|⟨g,j⟩:=w I
    .let⟨fn,M,L,Q⟩:=o v;refine qNW E M L λ s g h=>?_;have h:b.pf (m+1) f s=some g:=h;obtain⟨S,i,u,O,rfl⟩|⟨U,u⟩:=Tb.has_pf h
     .rw[v]at u;cases u;obtain⟨rfl,K,_,J⟩:=Q s i O;exact⟨b.tc m i.loop i.fn.ntmps 0 i.ld,rfl,rfl,rfl,K,qv4,m+1,λ a=>J m a⟩
     .rw[v]at u;cases u
    .exact x rfl j
   .obtain⟨i,H,rfl⟩|e:=B j
    .let⟨y,q,_,J⟩:=Tr.get_spec H n k;let⟨z,K⟩:=qp0 y;exact qNG (c:=b.tc m i.loop i.fn.ntmps (qD2 i.args) i.ld) (E.pur _ _) q z (qx7 z) rfl _ rfl K ⟨qv4,m+1,λ a=>J m a⟩
    .obtain e|⟨h,e,rfl⟩:=e
     .exact(Tr.get_spec e n k).2
     .exact(Tr.get_spec e n k).2.2 m E
   .obtain⟨h,e,rfl⟩:=C j;exact(Tr.get_spec e n k).2.2 m E
   .obtain⟨h,e,rfl⟩:=A j;exact(Tr.get_spec e n k).2.2 m E
def okP(b:Tb)(c:List Nat)(i:FI):Prop:=∀m a,i.F (m+1) a=b.runP1 m i c a
def okS(b:Tb)(i:SI):Prop:=∀m a,i.F (m+1) a=b.runS1 m i a
theorem nP{P:Program}{b:Tb}{k:Nat}{c:List Nat}{i:FI}{l r:Tr}(h:P.funcs[k]?=some i.fn)(g:okP b c i)(e:l.prog P b)(d:r.prog P b)(f:∀a,i.F 0 a=none:=by exact λ _=>rfl):(Tr.node k l r (.pure [(c,i)])).prog P b:=⟨⟨⟨h,f,g,trivial⟩,vK _ _⟩,e,d⟩
theorem nS{P:Program}{b:Tb}{k:Nat}{i:SI}{l r:Tr}(h:P.funcs[k]?=some i.fn)(g:okS b i)(d:l.prog P b)(c:r.prog P b)(e:∀a,i.F 0 a=none:=by exact λ _=>rfl):(Tr.node k l r (.st i)).prog P b:=⟨⟨h,e,g⟩,d,c⟩
abbrev eP(i:FI):En:=.pure [([],i)]
abbrev eS(i:SI):En:=.st i
abbrev tL(k:Nat)(x:En):Tr:=.node k .leaf .leaf x
abbrev vI:=TV.i .i64
abbrev vT(l:List T):=TV.sl .term l 1
section
variable {A B C D E F R:Type}
abbrev u0(f:Nat->R):Nat->Unit->R:=λ m _=>f m
abbrev u1(f:Nat->A->R):Nat->A×Unit->R:=λ m x=>f m x.1
abbrev u2(f:Nat->A->B->R):Nat->A×B×Unit->R:=λ m x=>f m x.1 x.2.1
abbrev u3(f:Nat->A->B->C->R):Nat->A×B×C×Unit->R:=λ m x=>f m x.1 x.2.1 x.2.2.1
abbrev u4(f:Nat->A->B->C->D->R):Nat->A×B×C×D×Unit->R:=λ m x=>f m x.1 x.2.1 x.2.2.1 x.2.2.2.1
abbrev u5(f:Nat->A->B->C->D->E->R):Nat->A×B×C×D×E×Unit->R:=λ m x=>f m x.1 x.2.1 x.2.2.1 x.2.2.2.1 x.2.2.2.2.1
end
theorem Tb.prim{P:Program}{b:Tb}(h:∀m,yr P (b.at m).pc.cfg)(m:Nat){f:Nat}(a:b.has f=true):qT P f (JB (jC (b.at m) f)):=by
 refine(h m).prim f _ ?_;show PC.prim _ f=_;unfold PC.prim
 have:(b.at m).pc.pf f=some (jC (b.at m) f):=by
  show(match(b.at m).has f with|true=>some (jC (b.at m) f)|false=>none)=_;rw[show(b.at m).has f=true from a]
 rw[this]
end Go.AmZ
namespace Go.AmZ
open Go Go.RowKit Go.GxZ Go.Sort Go.Proofs Go.Shelf
def bare(Γ:Gh):Gh:={Γ with nb:=0,nr:=0}
theorem Rep.bare{Γ:Gh}{x:AV}{u:Value}(h:Rep Γ x u)(m:qv x=true):Rep (bare Γ) x u:=by
 induction h with
 |v x h=>exact .v x h
 |sl k z f a n cap b o us p t s r c y w q A l=>exact .sl k z f a n cap b o us p t s r c y w q (λ i e j x g d=>l i e j x g d (c e (wb g) x (wb d)))
 |_=>simp[qv]at m
theorem Inv.bare{Γ:Gh}{σ:St}{w w':World}(h:Inv Γ σ w)(d:∀b o u,Γ.mem b o=some u->w'.cell? ⟨b,o,none⟩=some u):Inv (bare Γ) emp w' where
 nb:=rfl
 nr:=rfl
 mem:=λ b o u e=>⟨d b o u e,(h.mem b o u e).2⟩
 box:=λ i cs e=>by cases e
 inj:=λ i j a=>absurd a (wN _)
 boxmem:=λ i a=>absurd a (wN _)
 row:=λ r R e=>by cases e
 apart:=λ r f c=>absurd c (wN _)
structure qPd (w w':World):Prop where
 os:w'.os=w.os
 tape:w'.tape=w.tape
 output:w'.output=w.output
 size:w.heap.size<=w'.heap.size
 block:∀b,b<w.heap.size->w'.heap[b]?=w.heap[b]?
 drawn:w.drawn<=w'.drawn
theorem qAJ:∀(τ:Ty) (v:Val τ),Ql τ (yR τ v)=some v:=by
 intro τ v;have h:=j9 τ v;cases τ<;>exact h
theorem qsA:∀(ts:List Ty) (a:qed (ts.map ATy.val)),qdW (ts.map ATy.val) (Qv (ts.map ATy.val) a [])=some a/\qf6 (Qv (ts.map ATy.val) a [])=[]
 |[],_=>⟨rfl,rfl⟩
 |τ::r,a=>by
   let⟨d,c⟩:=qsA r a.2;constructor
   .show qn1 (Ql τ) (qdW (r.map ATy.val)) (yR τ a.1::Qv (r.map ATy.val) a.2 [])=_;simp only[qn1,qAJ,d];rfl
   .show qf6 (yR τ a.1::Qv (r.map ATy.val) a.2 [])=[];have:=(qeE (qAJ τ a.1)).2;cases b:yR τ a.1<;>first|exact c|exact absurd b (this _ _)
def Fn2(P:Program)(g:FuncId)(τ:Ty){a:Type}(enc:a->Value)(F:Val τ->Val τ->Option a):Prop:=
 qg0 P g/\∀{Γ:Gh}{w:World}{x y:Val τ}{u v:Value}{c:a},Inv Γ emp w->Rep Γ (yR τ x) u->Rep Γ (yR τ y) v->F x y=some c->Calls P g #[u,v] w λ e w'=>e=.returned (enc c)/\qPd w w'
theorem qEB{P:Program}{g:FuncId}{c:TC}{τ ρ:Ty}(o:qT P g (JB (jC c g))){F:Val τ->Val τ->Option (qg4 [ρ])}(z:c.pf g []=some ⟨[.val τ,.val τ],[ρ],λ x=>F x.1 x.2.1⟩){enc:qg4 [ρ]->Value}(A:∀v,zY (qbg [ρ] v)=.v (enc v)):Fn2 P g τ enc F:=by
 refine⟨o.1,λ{Γ w x y u v p} m a q B=>?_⟩;let⟨E,D⟩:=qsA [τ,τ] (x,y,())
 have t:jC c g [yR τ x,yR τ y]=some (.v (enc p)):=by
  show jC c g (Qv ([τ,τ].map ATy.val) (x,y,()) [])=_;unfold jC;rw[D,z];simp only;have n:qdW [ATy.val τ,ATy.val τ] (Qv ([τ,τ].map ATy.val) (x,y,()) [])=some (x,y,()):=E;rw[n];simp only;rw[B];simp only;rw[A]
 have j:JB (jC c g) emp [yR τ x,yR τ y]=some (.v (enc p),none):=by
  show(match jC c g [yR τ x,yR τ y]with|some v=>some (v,none)|none=>none)=_;rw[t]
 have:=o.2 Γ emp w _ [u,v] _ m (waK a (waK q RepL.nil)) j;refine Calls.mono this ?_;rintro e w' ⟨G,Γ',rfl,a,_,h,_⟩;have s:=zp h;subst s;refine⟨rfl,a.os,a.tape,a.output,a.size,λ b C=>a.block b C ?_,a.drawn⟩;have l:Γ.nb=0:=m.nb;have k:Γ.nr=0:=m.nr;rintro(⟨i,f,_⟩|⟨r,d,_⟩)
 .rw[l]at f;exact absurd f (wN _)
 .rw[k]at d;exact absurd d (wN _)
theorem qzc{P:Program}{b:Tb}{m:Nat}(h:yr P (b.at m).pc.cfg){f:Nat}(a:b.has f=true):qT P f (JB (jC (b.at m) f)):=by
 refine h.prim f _ ?_;show PC.prim _ f=_;unfold PC.prim
 have:(b.at m).pc.pf f=some (jC (b.at m) f):=by
  show(match(b.at m).has f with|true=>some (jC (b.at m) f)|false=>none)=_;rw[show(b.at m).has f=true from a]
 rw[this]
def Jc{α:Type}(F:α->α->Option Int)(l:List α)(i j:Nat):Int:=match l[i%l.length]?,l[j%l.length]? with
 |some x,some y=>(F x y).getD 0
 |_,_=>0
def qc9{α a:Type}(F:α->α->Option a)(l:List α):Bool:=l.all λ x=>l.all λ y=>(F x y).isSome
def qvQ(n:Nat)(lt:Nat->Nat->Bool):Bool:=(List.range n).all λ i => !lt i i&&(List.range n).all λ j=>(List.range n).all λ k=>(!(lt i j&&lt j k)||lt i k)&&(lt i j||(lt j k || !lt i k))
def qaz{α:Type}(F:α->α->Option Int)(l:List α):List Nat:=(Sort.pdq (ltOf (Jc F l)) (Array.range l.length) 0 l.length (Lib.bitLen l.length) true true).toList
def pick{α:Type}(l:List α)(a:List Nat):List α:=a.filterMap λ i=>l[i]?
def qqf{α:Type}(F:α->α->Option Int):List α->Option (List α)
 |[]=>some []
 |x::l=>cond (Nat.ble (x::l).length 100000&&(qc9 F (x::l)&&qvQ (x::l).length (ltOf (Jc F (x::l))))) (some (pick (x::l) (qaz F (x::l)))) none
theorem qPu{α:Type}(F:α->α->Option Int)(l:List α)(i j:Nat):Jc F l i j=Jc F l (i%l.length) (j%l.length):=by
 unfold Jc;rw[Nat.mod_mod,Nat.mod_mod]
theorem qRH{n:Nat}{lt:Nat->Nat->Bool}(l:0<n)(e:∀i j,lt i j=lt (i%n) (j%n))(h:qvQ n lt=true):SWO lt:=by
 have b:∀i j k,lt i i=false/\(lt i j=true->lt j k=true->lt i k=true)/\(lt i j=false->lt j k=false->lt i k=false):=by
  intro i j k;have a:∀i,i%n∈List.range n:=λ i=>xb.2 (xU _ l);have d:=ww.1 h _ (a i);rw[wc]at d;have c:=ww.1 (ww.1 d.2 _ (a j)) _ (a k);rw[wc]at c;rw[e i i,e i j,e j k,e i k];let⟨d,_⟩:=d;let⟨c,g⟩:=c;refine⟨by simpa using d,λ e1 f=>?_,λ e1 f=>?_⟩
  .rw[e1,f]at c;simpa using c
  .rw[e1,f]at g;simpa using g
 exact⟨λ i=>(b i i i).1,λ i j k=>(b i j k).2.1,λ i j k=>(b i j k).2.2⟩
theorem qvB{α:Type}{l:List α}:∀{a:List Nat},(∀i∈a,i<l.length)->∀(q:Nat),(pick l a)[q]?=(a[q]?).bind λ i=>l[i]?
 |[],_,q=>by simp[pick]
 |i::a,h,q=>by
   have b:=h i (wh ..)
   have e:pick l (i::a)=l[i]::pick l a:=by
    unfold pick;rw[xk,List.getElem?_eq_getElem b]
   rw[e];cases q with
   |zero=>simp[List.getElem?_eq_getElem b]
   |succ q=>simpa using qvB (λ j c=>h j (we _ c)) q
theorem qDW{α:Type}{l:List α}{a:List Nat}(h:∀i∈a,i<l.length):(pick l a).length=a.length:=by
 induction a with
 |nil=>rfl
 |cons i a b=>
   have d:=h i (wh ..)
   have e:pick l (i::a)=l[i]::pick l a:=by
    unfold pick;rw[xk,List.getElem?_eq_getElem d]
   rw[e,wx,wx,b λ j c=>h j (we _ c)]
theorem que{α : Type}(F : α -> α -> Option Int)(l:List α)(h:SWO (ltOf (Jc F l))):(qaz F l).Perm (List.range l.length)/\SortedIn (ltOf (Jc F l)) 0 l.length (qaz F l).toArray:=by
 have hp:=pdq_sorts (ltOf (Jc F l)) h (Array.range l.length) 0 l.length (Lib.bitLen l.length) true true (wg _) (by simp) (Or.inl rfl);obtain⟨⟨h1,_,h3⟩,h4⟩:=hp;have hsz:(Array.range l.length).size=l.length:=vL;have hs':(Sort.pdq (ltOf (Jc F l)) (Array.range l.length) 0 l.length (Lib.bitLen l.length) true true).size=l.length:=h1.trans hsz;have e2:∀ a:Array Nat,a.size=l.length->a.extract 0 l.length=a := λ a ha=>by rw[<- ha];exact Array.extract_size
 rw[e2 _ hs',e2 _ hsz]at h3;refine⟨?_,h4⟩;rw[Array.toList_range]at h3;exact h3
theorem qIz{σ:St}{g:Nat}{r:List SA}{nb c:Nat}{ys:List AV}{a:qaJ (.clo g 0::r)}(h:dS σ (.clo g 0::r) nb c ys=some a):∃b,ys=.fn g []::b/\dS σ r nb c b=some a:=by
 cases ys with
 |nil=>simp[dS]at h
 |cons y ys=>
   simp only[dS]at h;split at h
   .rename_i cs d;obtain⟨rfl,e⟩:=qHV d;obtain rfl:=wi e;exact⟨ys,rfl,h⟩
   .cases h
end Go.AmZ
namespace Go.AmZ
open Go Go.RowKit Go.GxZ Go.Sort Go.Proofs Go.Shelf
structure qNZ (w0:World) (blk:Nat) (et:TypeId) (vs:Array Value) (W:World):Prop where
 hb:W.heap[blk]?=some (.cells vs et (0,0))
 os:W.os=w0.os
 tape:W.tape=w0.tape
 output:W.output=w0.output
 size:w0.heap.size<=W.heap.size
 other:∀b,b<w0.heap.size->b≠blk->W.heap[b]?=w0.heap[b]?
 drawn:w0.drawn<=W.drawn
theorem qNZ.refl{w:World}{a:Nat}{b:TypeId}{vs:Array Value}(h:w.heap[a]?=some (.cells vs b (0,0))):qNZ w a b vs w:=⟨h,rfl,rfl,rfl,wa _,λ _ _ _=>rfl,wa _⟩
theorem sort_blks{w:World}{blk:Nat}{et:TypeId}{vs:Array Value}(hb:w.heap[blk]?=some (.cells vs et (0,0))){α : Type}[Inhabited α](enc : α -> List Value)(k m:Nat)(dk:Array α)(os:Array Obj) :
  qNZ w blk et (putCells id 0 (flatK enc k dk) vs) (sortWorldK enc k w blk 0 m dk os):=by
 have hlt:blk<w.heap.size:=(Array.getElem?_eq_some_iff.1 hb).1;have hh:(sortWorldK enc k w blk 0 m dk os).heap=w.heap.modify blk (onCells (putCells id 0 (flatK enc k dk)))++os:=rfl;refine⟨?_,rfl,rfl,rfl,?_,λ b hb' hn=>?_,kI _ _⟩
 ·rw[hh,Array.getElem?_append_left (by simpa using hlt),Array.getElem?_modify,if_pos rfl,hb];rfl
 ·rw[hh,xJ,Array.size_modify];exact kI _ _
 ·rw[hh,Array.getElem?_append_left (by simpa using hb'),Array.getElem?_modify,if_neg (xT hn)]
theorem qPd.grow{W w':World}(h:qPd W w'):∃q a,w'=Sort.grow (W.drewN q) a:=by
 refine⟨w'.drawn-W.drawn,w'.heap.extract W.heap.size w'.heap.size,?_⟩
 have c:w'.heap=W.heap++w'.heap.extract W.heap.size w'.heap.size:=by
  apply Array.ext_getElem?;intro i;by_cases b:i<W.heap.size
  .rw[Array.getElem?_append_left b];exact h.block i b
  .rw[Array.getElem?_append_right (by omega),Array.getElem?_extract];split
   .congr 1;omega
   .rw[Array.getElem?_eq_none (by omega)]
 have d:W.drawn+(w'.drawn-W.drawn)=w'.drawn:=Nat.add_sub_cancel' h.drawn;let⟨g,f,e,_,_,_⟩:=h;cases w';cases W;simp only[Sort.grow,World.drewN]at *;rw[<-c,d,g,f,e]
def qcc(vs:Array Value)(k p:Nat):List Value:=(vs.toList.drop (p*k)).take k
theorem qpC{vs:Array Value}{k p j:Nat}(a:j<k):(qcc vs k p)[j]?=vs[p*k+j]?:=by
 unfold qcc;rw[List.getElem?_take,if_pos a,List.getElem?_drop,Array.getElem?_toList]
theorem quh{vs:Array Value}{k p n:Nat}(a:p<n)(b:n*k<=vs.size):(qcc vs k p).length=k:=by
 unfold qcc;have:(p+1)*k<=n*k:=wu _ a;rw[kS]at this;rw[wo,w7,wR];omega
theorem qEJ{Γ:Gh}{τ:Ty}{c:List (List AV)}{l:List (Val τ)}{vs:Array Value}{n:Nat}(v:c.length=n)(B:∀e∈c,e.length=τ.size)(w:zl (qL τ) c=some l)(C:jm Γ τ.size c (vs.toList.take (n*τ.size)))(A:n*τ.size<=vs.size)
  {p:Nat}{x:Val τ} (t:l[p]?=some x):RepL Γ (qe τ x) (qcc vs τ.size p)/\∀u∈qcc vs τ.size p,u.oneCell'=true:=by
 have o:l.length=n:=(zb w).symm.trans v;have h:p<n:=by rw[<-o];exact getElem?_lt t
 have b:p<c.length:=by rw[v];exact h
 let⟨x',g,r⟩:=J0 w (List.getElem?_eq_getElem b);rw[t]at g;cases g;have f:=B _ (wW b);have a:=quh (k:=τ.size) h A
 have get:∀j,j<τ.size->∃u,(qcc vs τ.size p)[j]?=some u/\Rep Γ (c[p][j]?.getD .dead) u/\u.oneCell'=true:=by
  intro j d;have i:j<c[p].length:=by rw[f];exact d
  let⟨u,u1,u2,u3⟩:=C p c[p] j _ (List.getElem?_eq_getElem b) (List.getElem?_eq_getElem i);refine⟨u,?_,?_,u3⟩
  .rw[qpC d,<-Array.getElem?_toList];rw[List.getElem?_take]at u1;split at u1
   .exact u1
   .cases u1
  .rw[List.getElem?_eq_getElem i];exact u2
 constructor
 .refine(qlj r).rep ⟨by rw[a,f],λ j y u s m=>?_⟩;have d:j<τ.size:=by rw[<-f];exact getElem?_lt s
  let⟨z,u1,u2,_⟩:=get j d;rw[m]at u1;cases u1;rw[s]at u2;exact u2
 .intro u m;let⟨j,d⟩:=List.getElem?_of_mem m;have q:j<τ.size:=by rw[<-a];exact getElem?_lt d
  let⟨z,u1,_,u3⟩:=get j q;rw[d]at u1;cases u1;exact u3
theorem qp8(j k n:Nat)(h:j<n*k):j/k<n/\j/k*k+j%k=j/\j%k<k:=by
 have b:0<k:=by
  obtain a|a:=vZ k
  .rw[a,Nat.mul_zero]at h;exact absurd h (wN _)
  .exact a
 refine⟨(xX b).2 h,?_,xU _ b⟩;rw[xM];exact vp j k
set_option maxHeartbeats 1000000 in
theorem qA2{P:Program}{ρ : Ren}(L:SlLaysF0.n6 P ρ){τ : Ty}{g:FuncId}(hag:∀ v,yR τ v = .agg (qe τ v))(aE:∀ w,(isAgg (ρ.t 24)).run P w = .ok true w)(zE:∀ w,(Go.sizeOf (ρ.t 24)).run P w = .ok τ.size w)
  {F:Val τ -> Val τ -> Option Int} (hF:Fn2 P g τ (λ c:Int => .int .i64 c) F) (hf:qg0 P (ρ.f 6)) {fn:List (Val τ)->Option (List (Val τ))} (hfn:∀ l r,fn l=some r->qqf F l=some r) (hk1' : τ.size≠1:=by first | assumption | decide) :
  qT P (ρ.f 6) (mgP ⟨τ,[.clo g 0],λ x=>fn x.1⟩):=by
 refine⟨hf,λ Γ σ w args vals r hi hr hp=>?_⟩;unfold mgP at hp;split at hp
 case h_2=>cases hp
 rename_i x hx;split at hp
 case h_2=>cases hp
 rename_i v hv;split at hp
 case h_2=>cases hp
 rename_i hlen;obtain⟨l,_⟩:=x;have hv:=hfn _ _ hv;have hlen:v.length=l.length:=wm hlen;obtain⟨y0,ys0,nr,rfl,hy0,hx1⟩:=qv2 hx;obtain⟨ys1,rfl,hx2⟩:=qIz (g:=g) (r:=[]) hx1;obtain⟨rfl,hbx,hrw⟩:=qlL hx2;clear hx hx1 hx2;obtain⟨u0,r0,rfl,hu0,hr⟩:=hr.uncons;obtain⟨u1,r1,rfl,hu1,hr⟩:=hr.uncons;have:=hr.nil_inv;subst this
 have hu1:u1 = .func (.func g) #[] #[]:=by
  cases hu1 with
  | fn _ _ us hn _=>obtain rfl:=wi hn;rfl
 subst hu1;have hb0 : σ.bx=[]:=wi hbx.symm;have none0:∀(p:Option Addr) (cap:Nat),Calls P (ρ.f 6) #[.slice p 0 cap,.func (.func g) #[] #[]] w λ e w'=>e = .returned (.tuple #[])/\w'=w := λ p cap=>AnyF.slices_SortFunc_none L p cap _ w;have tup:∀ Γ,Rep Γ (.tup []) (.tuple #[]) := λ Γ => .tup [] [] rfl (λ i x u h=>by cases h);rcases qhX hy0 with⟨hnr,R,rfl,hR,hRk,hRf,hRd⟩ | ⟨hnr,hl0,hy⟩
 ·have hrw1 : σ.rw=[R]:=by
    rw[hnr]at hrw
    match hq : σ.rw,hrw with
    | [Q],_=>rw[hq]at hR;cases hR;rfl
  rw[hb0,hrw1]at hp;cases hp;have H:=hi.row 0 R hR;have hcl:R.c.length=l.length:=zb hRd;have hlk:∀ e∈R.c,e.length = τ.size := λ e he=>(H.len e he).trans hRk
  have qo4:qO { σ with wr:=[],wrr:=[] } ⟨[],[⟨R.k,v.map (qe τ),R.ver,R.fz,R.off⟩],[],[0]⟩ :=
   ⟨by show σ.bx.length<=0;rw[hb0];exact wa _,by show σ.rw.length<=1;rw[hrw1];exact wa _,λ i hi _=>(by have hi:i < σ.bx.length:=hi;rw[hb0]at hi;exact absurd hi (wN _)),λ i hi hn=>(by
    have hi:i < σ.rw.length:=hi;rw[hrw1]at hi;have hi:i<1:=hi;obtain rfl:i=0:=by omega
    exact absurd (wD.2 rfl) hn),λ i h=>(by cases h),λ i h=>(by cases h)⟩
  obtain⟨p,cap,rfl,hcap,hrm⟩:=qzA hi hR hRk hRf hu0;by_cases hl0:l=[]
  ·subst hl0;have hc0:R.c=[]:=wi hcl;have hv0:v=[]:=wi hlen;subst hv0;rw[hcl];refine(none0 p cap).mono ?_;rintro e w' ⟨rfl,rfl⟩;refine⟨_,Γ,rfl,.refl _ _,?_,tup _,qo4⟩
   have:(⟨[],[⟨R.k,([]:List (Val τ)).map (qe τ),R.ver,R.fz,R.off⟩],[],[0]⟩:St)=⟨[],[R],[],[0]⟩:=by
    show(⟨[],[⟨R.k,[],R.ver,R.fz,R.off⟩],[],[0]⟩:St)=_;rw[<- hc0]
   show Inv Γ ⟨[],[⟨R.k,([]:List (Val τ)).map (qe τ),R.ver,R.fz,R.off⟩],[],[0]⟩ w';rw[this];exact hi.wr hb0.symm hrw1.symm
  ·have hlpos:0<l.length:=xE.2 hl0;rcases hrm with h0 | ⟨rfl,hz,vs,et,hvs,hvsz,hfit,hca,hxl,h1⟩
   ·omega
   obtain⟨n,hn⟩:∃ n,n=l.length:=⟨_,rfl⟩
   have hnc:R.c.length=n:=hcl.trans hn.symm;rw[hnc]at hca hxl h1 hcap |-
   have hns:n * τ.size<=vs.size:=wz (wu _ hcap) hfit;have hsz0:0 < τ.size:=waI τ
   have hv':Nat.ble l.length 100000=true/\qc9 F l=true/\qvQ l.length (ltOf (Jc F l))=true/\v=pick l (qaz F l):=by
    cases l with
    | nil=>exact absurd rfl hl0
    | cons y l =>
      have hv:cond _ _ _=some v:=hv;cases hb:(Nat.ble (y::l).length 100000&&(qc9 F (y::l)&&qvQ (y::l).length (ltOf (Jc F (y::l)))))with
      | false=>unfold qqf at hv;rw[hb]at hv;cases hv
      | true =>
        have hb':=hb;simp only[wc]at hb';unfold qqf at hv;rw[hb]at hv;cases hv;exact⟨hb'.1,hb'.2.1,hb'.2.2,rfl⟩
   obtain⟨v1,v2,v3,v4⟩:=hv';have v1:l.length<=100000:=kG v1;have hO:SWO (ltOf (Jc F l)):=qRH hlpos (λ i j=>by unfold ltOf;rw[qPu]) v3;obtain⟨hperm,_⟩:=que F l hO;have hixlt:∀ i∈qaz F l,i<l.length := λ i hi=>xb.1 (hperm.mem_iff.1 hi);have hixlen:(qaz F l).length=l.length:=by rw[hperm.length_eq,xD]
   have hER:∀{q:Nat} {y:Val τ},l[q]?=some y->RepL Γ (qe τ y) (qcc vs τ.size q)/\∀ u∈qcc vs τ.size q,u.oneCell'=true := λ hq=>qEJ hnc hlk hRd hca hns hq;have hlast:∀ i,i % n<n := λ i=>xU _ (by omega);obtain⟨enc,henc⟩:∃ enc:Nat->List Value,enc = λ i=>qcc vs τ.size (i % n):=⟨_,rfl⟩
   have hek:∀ i,(enc i).length = τ.size := λ i=>by rw[henc];exact quh (hlast i) hns
   have hlget:∀ i,∃ y,l[i % n]?=some y := λ i=>⟨_,List.getElem?_eq_getElem (by rw[<- hn];exact hlast i)⟩
   have he1:∀ i,∀ u∈enc i,u.oneCell'=true := λ i u hu=>by
    rw[henc]at hu;obtain⟨y,hy⟩:=hlget i;exact(hER hy).2 u hu
   have hrange:(Array.range n).size=n:=vL;have hvsb:w.heap[Γ.cur 0]?=some (.cells vs et (0,0)):=hvs;have hblk : Γ.cur 0<w.heap.size:=(Array.getElem?_eq_some_iff.1 hvsb).1;have hmem0:∀ off,Γ.mem (Γ.cur 0) off=none := λ off=>H.un hz off (by rw[hRf.1,kR,H.off hRf.2];exact wg _)
   have hH:HoldsK enc τ.size w (Γ.cur 0) 0 (Array.range n):=by
    intro j hj;rw[size_flatK,hrange]at hj;obtain⟨q1,q2,q3⟩:=qp8 j τ.size n hj;have hjs:j<vs.size:=wA hj hns;constructor
    ·rw[get_flatK _ _ _ _ (by rw[hrange];exact hj)];have e1:(Array.range n)[j / τ.size]! = j / τ.size:=by rw[getElem!_pos _ _ (by rw[hrange];exact q1)];simp
     rw[e1,henc];show _=some ((qcc vs τ.size (j / τ.size % n))[j % τ.size]!);rw[xr q1];have e2:(qcc vs τ.size (j / τ.size))[j % τ.size]?=some vs[j]:=by rw[qpC q3,q2];exact Array.getElem?_eq_getElem hjs
     rw[wG,Blk.cell hvs,List.getElem!_eq_getElem?_getD,e2,Array.getElem?_eq_getElem hjs];rfl
    ·exact Blk.free hvs _
   have hcmp:CmpLays P g #[] enc τ.size (Jc F l) (Γ.cur 0) 0 (Array.range n).size w:=by
    intro m os dk hdk x y;have B:=sort_blks hvsb enc τ.size m dk os;obtain⟨W,hW⟩:∃ W,W=sortWorldK enc τ.size w (Γ.cur 0) 0 m dk os:=⟨_,rfl⟩
    rw[<- hW]at B |-
    have hiW:Inv (bare Γ) emp W:=hi.bare λ b o u e=>by
     have hne:b ≠ Γ.cur 0 := λ hb=>by rw[hb,hmem0]at e;cases e
     have hc:=(hi.mem b o u e).1;have hblt:=hi.mem_lt e;rw[show W.cell? _=w.cell? _ from World.cell?_of_block (B.other b hblt hne)];exact hc
    have rep:∀(i:Nat) (y:Val τ),l[i % n]?=some y->Rep (bare Γ) (yR τ y) (.agg (enc i).toArray) := λ i y hy=>by
     obtain⟨q1,q2⟩:=hER hy;rw[hag];have:enc i=qcc vs τ.size (i % n):=by rw[henc]
     rw[this];refine .agg _ _ q1.len q2 λ j z u a b=>(q1.rep j z u a b).bare (zq τ y z (wb a))
    obtain⟨lx,hx⟩:=hlget x;obtain⟨ly,hy⟩:=hlget y;have hsome:=ww.1 (ww.1 v2 lx (wb hx)) ly (wb hy);obtain⟨c,hc⟩:=wak.1 hsome
    have hcf:Jc F l x y=c:=by
     unfold Jc;rw[<- hn,hx,hy];simp only;rw[hc];rfl
    rw[hcf];have hcall:=hF.2 hiW (rep x lx hx) (rep y ly hy) hc;refine Calls.mono (by simpa using hcall) ?_;rintro e w' ⟨rfl,hid⟩;exact⟨rfl,hid.grow⟩
   have hcall:=AnyQ.slices_SortFunc_eq L τ.size aE zE enc hek he1 (Jc F l) hO g #[] (Γ.cur 0) 0 cap (Array.range n) w (λ args w=>qiE hF.1 args w) hcmp hH hblk (by rw[hrange];omega);rw[hrange]at hcall;refine Calls.mono hcall ?_;rintro e w' ⟨rfl,m,os,hw'⟩;have B:=sort_blks hvsb enc τ.size m (pdq (ltOf (Jc F l)) (Array.range n) 0 n (Lib.bitLen n) true true) os;rw[<- hw']at B;have hix:qaz F l=(pdq (ltOf (Jc F l)) (Array.range n) 0 n (Lib.bitLen n) true true).toList:=by unfold qaz;rw[hn]
   obtain⟨dk,hdk⟩:∃ dk,dk=pdq (ltOf (Jc F l)) (Array.range n) 0 n (Lib.bitLen n) true true:=⟨_,rfl⟩
   rw[<- hdk]at B hix;have hdks:dk.size=n:=by rw[<- wR,<- hix,hixlen,hn]
   have hvlen:(v.map (qe τ)).length=n:=by rw[wE,hlen,hn]
   have hflat:(flatK enc τ.size dk).size=n * τ.size:=by rw[size_flatK,hdks]
   have hpsz:(putCells id 0 (flatK enc τ.size dk) vs).size=vs.size:=by unfold putCells;rw[wab]
   obtain⟨Γ',x1,x2,_⟩:=qvg hi hR (H.off hRf.2) (R':=⟨R.k,v.map (qe τ),R.ver,R.fz,R.off⟩) (by rw[hRf.1];exact wg _) rfl (g := Γ.cur 0) (vs:=putCells id 0 (flatK enc τ.size dk) vs) (e:=et) (.inr ⟨rfl,rfl,hpsz.trans hvsz⟩)
    (λ e he=>by obtain⟨y,_,rfl⟩:=wC.1 he;rw[yj,hRk]) (λ e he=>by obtain⟨y,_,rfl⟩:=wC.1 he;exact zq τ y) (by show R.fz<=_;rw[hRf.1];exact wg _) (qCN _) (λ _=>rfl) B.hb
    (by show(v.map (qe τ)).length*R.k<=_;rw[hvlen,hRk,hpsz];exact hns)
    (λ off _=>hmem0 off)
    (λ i e j x he hx=>by
     have he:(v.map (qe τ))[i]?=some e:=he;have hin:i<n:=by rw[<- hvlen];exact getElem?_lt he
     rw[List.getElem?_map,v4,qvB hixlt]at he;have hixi:(qaz F l)[i]?=some dk[i]:=by rw[hix,Array.getElem?_toList];exact Array.getElem?_eq_getElem (by omega)
     rw[hixi]at he
     obtain⟨y,hy,rfl⟩:∃ y,l[dk[i]]?=some y/\qe τ y=e:=by
      cases hq:l[dk[i]]? with
      | none=>simp[hq]at he
      | some y=>simp[hq]at he;exact⟨y,rfl,he⟩
     have hdl:dk[i]<n:=wA (getElem?_lt hy) (vw hn.symm);obtain⟨q1,q2⟩:=hER hy;have hj:j < τ.size:=by rw[<- yj τ y];exact getElem?_lt hx
     obtain⟨u,hu,hrep⟩:=q1.get hx;refine⟨u,?_,hrep,q2 u (wb hu)⟩;rw[hRk]
     have hlt:i * τ.size+j<n * τ.size:=by
      have:(i+1) * τ.size<=n * τ.size:=wu _ hin;rw[kS]at this;omega
     unfold putCells;rw[Array.getElem?_mapIdx,Array.getElem?_eq_getElem (wA hlt hns),k8,if_pos ⟨wg _,by rw[hflat,wG];exact hlt⟩,Nat.sub_zero,id,get_flatK _ _ _ _ (by rw[hdks];exact hlt)];have e1:(i * τ.size+j) / τ.size=i:=by rw[xM,Nat.mul_add_div hsz0,Nat.div_eq_of_lt hj,wO]
     have e2:(i * τ.size+j) % τ.size=j:=by rw[xM,Nat.mul_add_mod,xr hj]
     rw[e1,e2,getElem!_pos dk i (by omega),henc];show some ((qcc vs τ.size (dk[i] % n))[j]!)=_;rw[xr hdl,List.getElem!_eq_getElem?_getD,hu];rfl)
    (λ b o u hm=>by
     have hne:b ≠ Γ.cur 0 := λ hb=>by rw[hb,hmem0]at hm;cases hm
     rw[show w'.cell? _=w.cell? _ from World.cell?_of_block (B.other b (hi.mem_lt hm) hne)];exact(hi.mem b o u hm).1)
    (λ b hb hor=>B.other b hb (hor.elim id λ h0=>absurd h0 hz)) (.inl ⟨rfl,hz⟩) B.os B.tape B.output B.size B.drawn [0]
   refine⟨_,Γ',rfl,x1,?_,tup _,qo4⟩;refine x2.wr ?_ ?_
   ·exact hb0.symm
   ·show[(⟨R.k,v.map (qe τ),R.ver,R.fz,R.off⟩:Row)] = σ.rw.set 0 _;rw[hrw1];rfl
 ·have hrw0 : σ.rw=[]:=by rw[hnr]at hrw;exact wi hrw.symm
  rw[hb0,hrw0]at hp;cases hp
  have hfin:∀(p:Option Addr) (cap:Nat),Jm P Γ σ w (ρ.f 6) [.slice p 0 cap,.func (.func g) #[] #[]] (.tup [],none) := λ p cap=>by
   refine(none0 p cap).mono ?_;rintro e w' ⟨rfl,rfl⟩;exact⟨_,Γ,rfl,.refl _ _,hi,tup _,.refl _⟩
  rcases hy with rfl | ⟨f,rfl,hf2⟩
  ·have hu0:=zp hu0;subst hu0;exact hfin none 0
  ·cases hu0 with
   | sl _ _ _ a n cap b o us hn _ _ _ _ _ _ _ _ =>
     have hn:n=0:=hn;subst hn;exact hfin a cap
end Go.AmZ
namespace Go.Proofs.YtinbdcelmgfniaaGreatDoor
open Go Go.RowKit Go.GxZ Go.Sort Go.Proofs Go.Shelf Go.Lib
def zO(a:Nat->Nat->Bool)(n:Nat):List Nat:=(List.range n).filter λ i=>decide (i=0) || !a i (i-1)
theorem qGB{a:Nat->Nat->Bool}{n:Nat}(h:a n (n-1)=false):zO a (n+1)=zO a n++[n]:=by
 grind [zO,List.range_succ]
theorem qt1{a:Nat->Nat->Bool}{n:Nat}(b:0<n)(h:a n (n-1)=true):zO a (n+1)=zO a n:=by
 grind [zO,List.range_succ]
theorem qxr{a:Nat->Nat->Bool}{n:Nat}(h:∀i,1<=i->i<n->a i (i-1)=false):zO a n=List.range n:=by
 grind [zO,List.filter_eq_self]
theorem qGF{α:Type}[Inhabited α](enc:α->List Value)(k:Nat)(f:∀x,(enc x).length=k)(d:Array α)(i:Nat)(x:α)(g:i<d.size):setMany (flatK enc k d) (i*k) (enc x)=flatK enc k (d.setIfInBounds i x):=by
 refine ext_get! (by simp) λ t b=>?_;rw[size_setMany,size_flatK]at b;rw[get_setMany _ _ _ _ (by rw[size_flatK];exact b),f,get_flatK _ _ _ _ b,get_flatK _ _ _ _ (by simpa using b)]
 have a:0<k:=by
  grind
 by_cases c:i*k<=t/\t<i*k+k
 .rw[if_pos c];have e:=(blk_iff k i t a).1 c;rw[e,getElem!_set_same d i x g];congr 1;grind [Nat.div_add_mod,Nat.mul_comm]
 .rw[if_neg c,getElem!_set_other d i _ x λ h=>c ((blk_iff k i t a).2 h)]
theorem qNE{α : Type}[Inhabited α]{w:World}{enc : α -> List Value}{k blk:Nat}(hk:∀ x,(enc x).length=k)(m:Nat)(dk:Array α)(os:Array Obj)(hblk:blk<w.heap.size)(i:Nat)(x : α)(hi:i<dk.size) :
  (sortWorldK enc k w blk 0 m dk os).setCells blk (i*k) (enc x)=sortWorldK enc k w blk 0 m (dk.setIfInBounds i x) os:=by
 have hb:i*k+(enc x).length<=(flatK enc k dk).size:=by
  rw[hk,size_flatK];have:=wu k (show i+1<=dk.size from hi)
  rwa [kS]at this
 unfold sortWorldK;rw[setCells_grow os blk _ _ _ (by rw[size_putRowK];exact hblk)];congr 1;unfold putRowK;have:=setCells_putRow (Sort.ahead w m) blk 0 (enc x) (i*k) (flatK enc k dk) hb;rw[wG]at this;grind [qGF]
variable {P:Program}
set_option maxHeartbeats 4000000 in
set_option maxRecDepth 1000000 in
theorem qLU(i:P.funcs[140]?=some Tryz.f140)(a:P.follows .mixedOrders=true)
  (v:P.underlying 0=some (TypeDesc.tuple #[])) (z:∀w,(isAgg 0).run P w=.ok false w) (o:∀w,(Go.sizeOf 0).run P w=.ok 1 w) (s:∀w,(zeroValue 0).run P w=.ok (Value.tuple #[]) w)
  (u:P.underlying 3=some (TypeDesc.int IntKind.i64)) (y:∀w,(isAgg 3).run P w=.ok false w) (n:∀w,(Go.sizeOf 3).run P w=.ok 1 w) (r:∀w,(zeroValue 3).run P w=.ok (Value.int IntKind.i64 0) w)
  (t:P.underlying 4=some (TypeDesc.bool)) (x:∀w,(isAgg 4).run P w=.ok false w) (m:∀w,(Go.sizeOf 4).run P w=.ok 1 w) (q:∀w,(zeroValue 4).run P w=.ok (Value.bool false) w)
  (h:P.underlying 23=some (TypeDesc.slice 25)) (l:∀w,(isAgg 23).run P w=.ok false w) (c:∀w,(Go.sizeOf 23).run P w=.ok 1 w) (f:∀w,(zeroValue 23).run P w=.ok (Value.slice none 0 0) w)
  (g:P.underlying 29=some (TypeDesc.func #[25,25] #[4] false)) (k:∀w,(isAgg 29).run P w=.ok false w) (b:∀w,(Go.sizeOf 29).run P w=.ok 1 w) (d:∀w,(zeroValue 29).run P w=.ok (Value.nilFunc) w)
  (p:Option Addr) (cap:Nat) (j:Value) (w:World):
  Calls P 140 #[.slice p 0 cap,j] w λ e w'=>e=.returned (.slice p 0 cap)/\w'=w:=by
 go_enter i,Tryz.ntmps140
 go_wp2
 go_ret
 exact⟨rfl,rfl⟩
set_option maxHeartbeats 4000000 in
set_option maxRecDepth 1000000 in
theorem qKG(hF:P.funcs[140]?=some Tryz.f140)(mixed:P.follows .mixedOrders=true)
  (t0:P.underlying 0=some (TypeDesc.tuple #[])) (a0:∀ w,(isAgg 0).run P w = .ok false w) (z0:∀ w,(Go.sizeOf 0).run P w = .ok 1 w) (v0:∀ w,(zeroValue 0).run P w = .ok (Value.tuple #[]) w)
  (t3:P.underlying 3=some (TypeDesc.int IntKind.i64)) (a3:∀ w,(isAgg 3).run P w = .ok false w) (z3:∀ w,(Go.sizeOf 3).run P w = .ok 1 w) (v3:∀ w,(zeroValue 3).run P w = .ok (Value.int IntKind.i64 0) w)
  (t4:P.underlying 4=some (TypeDesc.bool)) (a4:∀ w,(isAgg 4).run P w = .ok false w) (z4:∀ w,(Go.sizeOf 4).run P w = .ok 1 w) (v4:∀ w,(zeroValue 4).run P w = .ok (Value.bool false) w)
  (t22:P.underlying 23=some (TypeDesc.slice 25)) (a22:∀ w,(isAgg 23).run P w = .ok false w) (z22:∀ w,(Go.sizeOf 23).run P w = .ok 1 w) (v22:∀ w,(zeroValue 23).run P w = .ok (Value.slice none 0 0) w)
  (t36:P.underlying 29=some (TypeDesc.func #[25,25] #[4] false)) (a36:∀ w,(isAgg 29).run P w = .ok false w) (z36:∀ w,(Go.sizeOf 29).run P w = .ok 1 w) (v36:∀ w,(zeroValue 29).run P w = .ok (Value.nilFunc) w)
  (k:Nat) (hk0:0<k) (aE:∀ w,(isAgg 25).run P w = .ok true w) (zE:∀ w,(Go.sizeOf 25).run P w = .ok k w) (zv:Value) (vE:∀ w,(zeroValue 25).run P w = .ok zv w) (hzk:zv.cells.size=k) (hz1:∀ n,∀ v∈(Builtin.zeroCells zv.cells n).toList,v.oneCell'=true)
  (w:World) (blk n cap:Nat) (et:TypeId) (vs:Array Value) (q:Nat) (hbk:w.heap[blk]?=some (.cells vs et (0,0))) (hcs:cap*k<=vs.size) (hnc:n<=cap) (hn:n<=100000) (h0n:0<n)
  (enc:Nat->List Value) (hk:∀ x,(enc x).length=k) (h1:∀ x,∀ v∈enc x,v.oneCell'=true) (hH:HoldsK enc k w blk 0 (Array.range n))
  (eg:∀ args w,(callFunc q args).run P w = .ok (.enter q args) w) (ef:Nat->Nat->Bool)
  (heq:∀(m:Nat) (os:Array Obj) (dk:Array Nat),dk.size=n->∀ x y,Calls P q #[.agg (enc x).toArray,.agg (enc y).toArray] (sortWorldK enc k w blk 0 m dk os) λ e w'=>e = .returned (.bool (ef x y))/\∃ q' os',w'=grow ((sortWorldK enc k w blk 0 m dk os).drewN q') os') :
  Calls P 140 #[.slice (some ⟨blk,0,none⟩) n cap,.func (.func q) #[] #[]] w λ e w'=>e = .returned (.slice (some ⟨blk,0,none⟩) (zO ef n).length cap) /\
   ∃(dk:Array Nat) (m:Nat) (os:Array Obj) (new:List Value),dk.size=n/\dk.toList.take (zO ef n).length=zO ef n/\(w'=sortWorldK enc k w blk 0 m dk os\/(new.take ((zO ef n).length*k)=(putCells id 0 (flatK enc k dk) vs).toList.take ((zO ef n).length*k)/\new.length=vs.size/\w'=(sortWorldK enc k w blk 0 m dk os).setRow blk new.toArray)):=by
 have u22:=run_underlying t22;have hblk:blk<w.heap.size:=(Array.getElem?_eq_some_iff.1 hbk).1;have hrs:(Array.range n).size=n:=vL;have HC:Aside _:=heq;have HST:Hid (w=sortWorldK enc k w blk 0 0 (Array.range n) #[]):=by show w=_;unfold sortWorldK;rw[grow_empty];exact(putRowK_self enc k w blk 0 _ hH).symm
 have HH:Hid (HoldsK enc k w blk 0 (Array.range n)):=hH;have HK:Hid (∀ x,(enc x).length=k):=hk;have H1:Hid (∀ x,∀ v∈enc x,v.oneCell'=true):=h1;have HBK:Hid (w.heap[blk]?=some (.cells vs et (0,0))):=hbk;have HVE:Aside _:=vE;have HZ1:Aside _:=hz1;have HZK:=Lib.hid hzk;have HCS:=Lib.hid hcs;clear heq hH hk h1 hbk vE hz1 hzk hcs;have hnz:(n:Int)<=100000:=by omega
 by_cases hn2:n<2
 ·have hn1:n=1:=by omega
  subst hn1;have hci:zO ef 1=[0]:=by unfold zO;simp
  have HCI:=Lib.hid hci;clear hci
  go_enter hF,Tryz.ntmps140
  go_wp2
  go_ret
  rw[HCI.out];exact⟨rfl,Array.range 1,0,#[],[],hrs,by simp,.inl HST.out⟩
 ·have hn2z:¬ ((n:Int)<2):=by omega
  go_enter hF,Tryz.ntmps140
  go_wp2
  go_loopg [5] n (λ g1 vi wr=>∃(i m:Nat) (os:Array Obj),vi = .int .i64 i/\1<=i/\i<=n/\n-i<=g1/\wr=sortWorldK enc k w blk 0 m (Array.range n) os/\Hid (∀ j,1<=j->j<i->ef j (j-1)=false))
  case atStart=>exact⟨1,0,#[],rfl,wa _,by omega,by omega,HST.out,λ j h1 h2=>by omega⟩
  case round =>
   obtain⟨i,m,os,rfl,hi1,hin,hg1,rfl,HE⟩:=hrel;by_cases hlt:i<n
   ·have hltz:(i:Int)<(n:Int):=by omega
    obtain⟨ip,rfl⟩:∃ ip,i=ip+1:=⟨i-1,by omega⟩
    have hwp:IntKind.i64.wrap (ip:Int)=(ip:Int):=by rw[IntKind.wrap_i64];omega
    have jz1:(ip:Int)<(n:Int):=by omega
    have p0:(0:Int)<=(ip:Int)+1:=by omega
    have e0:((ip:Int)+1).toNat=ip+1:=by omega
    have r1:(Array.range n)[ip+1]! = ip+1:=by rw[getElem!_pos _ _ (by rw[hrs];exact hlt)];simp
    have r0:(Array.range n)[ip]! = ip:=by rw[getElem!_pos _ _ (by rw[hrs];omega)];simp
    have hcls:∀ n' os',grow ((sortWorldK enc k w blk 0 m (Array.range n) os).drewN n') os'=sortWorldK enc k w blk 0 (m+n') (Array.range n) (os++os') := λ n' os'=>sortWorldK_grown_c enc k w blk 0 m n' _ os os';have hHc:∀ n' os',HoldsK enc k (grow ((sortWorldK enc k w blk 0 m (Array.range n) os).drewN n') os') blk 0 (Array.range n) := λ n' os'=>by rw[hcls];exact holdsK_sortWorldK_c enc k w blk 0 _ _ _ _ HH.out hblk rfl
    have lj:∀ n' os',Sem.run P (loadCellsFrom ⟨blk,(ip+1)*k,none⟩ 0 k #[]) (grow ((sortWorldK enc k w blk 0 m (Array.range n) os).drewN n') os') = .ok (enc (ip+1)).toArray (grow ((sortWorldK enc k w blk 0 m (Array.range n) os).drewN n') os') := λ n' os'=>by
     have:=HoldsK.cells (hHc n' os') HK.out (i:=ip+1) (by rw[hrs];exact hlt);rw[r1,wG]at this;exact run_loadCellsFrom_list P _ _ _ k (HK.out _) this
    have lp:∀ n' os',Sem.run P (loadCellsFrom ⟨blk,ip*k,none⟩ 0 k #[]) (grow ((sortWorldK enc k w blk 0 m (Array.range n) os).drewN n') os') = .ok (enc ip).toArray (grow ((sortWorldK enc k w blk 0 m (Array.range n) os).drewN n') os') := λ n' os'=>by
     have:=HoldsK.cells (hHc n' os') HK.out (i:=ip) (by rw[hrs];omega);rw[r0,wG]at this;exact run_loadCellsFrom_list P _ _ _ k (HK.out _) this
    have hcg:∀ n' os',Calls P q #[.agg (enc (ip+1)).toArray,.agg (enc ip).toArray] (grow ((sortWorldK enc k w blk 0 m (Array.range n) os).drewN n') os') λ e w'=>e = .returned (.bool (ef (ip+1) ip))/\∃ q os'',w'=grow ((grow ((sortWorldK enc k w blk 0 m (Array.range n) os).drewN n') os').drewN q) os'' := λ n' os'=>by
     rw[hcls];exact HC.out _ _ _ hrs (ip+1) ip
    have CLS:Hid _:=hcls;clear hcls hHc r0 r1;generalize hwq:sortWorldK enc k w blk 0 m (Array.range n) os=wq at lj lp hcg CLS |-
    cases hev:ef (ip+1) ip with
    | false =>
      rw[hev]at hcg
      go_wp2_with fail
      go_quiet_grown (first | (go_at_fn q;refine Calls.grown_of (hcg _ _)))
      go_wp2
      go_roundg (n-(ip+2))
      case measure=>omega
      case rel =>
       refine⟨ip+2,_,_,by go_num,by omega,by omega,by omega,CLS.out nq osq,(show Hid _ from λ j h1 h2=>?_)⟩;by_cases hj:j=ip+1
       ·rw[hj];exact hev
       ·exact HE.out j h1 (by omega)
    | true =>
      rw[hev]at hcg
      go_wp2_with fail
      go_quiet_grown (first | (go_at_fn q;refine Calls.grown_of (hcg _ _)))
      have hcap1:¬ (cap=ip+1):=by omega
      have hcap2:(ip:Int)+1<=(cap:Int):=by omega
      go_wp2
      go_loopg [5,7] n (λ g2 v5 v7 wr2=>∃(b kk m2:Nat) (dk:Array Nat) (os2:Array Obj),v5 = .int .i64 kk/\v7 = .int .i64 b/\1<=b/\ip+1+b<=n/\n-b<=g2/\kk<=ip+b/\dk.size=n/\wr2=sortWorldK enc k w blk 0 m2 dk os2/\Hid (dk.toList.take kk=zO ef (ip+1+b))/\Hid (kk=(zO ef (ip+1+b)).length)/\Hid (∀ j,ip+b<=j->j<n->dk[j]! = j))
      case atStart =>
       have e1:zO ef (ip+1)=List.range (ip+1):=qxr λ j h1 h2=>HE.out j h1 h2;have e2:zO ef (ip+1+1)=List.range (ip+1):=by rw[qt1 (by omega) (by simpa using hev),e1]
       refine⟨1,ip+1,_,Array.range n,_,by go_num,rfl,wa _,by omega,by omega,by omega,hrs,CLS.out nq osq,?_,?_,?_⟩
       ·show _=_;rw[e2,Array.toList_range,List.take_range,kw (by omega)]
       ·show _=_;rw[e2,xD]
       ·intro j _ h2;rw[getElem!_pos _ _ (by rw[hrs];exact h2)];simp
      case round =>
       obtain⟨b,kk,m2,dk,os2,rfl,rfl,hb1,hbn,hg2,hkk,hdk,rfl,HT,HL,HD⟩:=hrel;by_cases hlt2:ip+1+b<n
       ·obtain⟨bp,rfl⟩:∃ bp,b=bp+1:=⟨b-1,by omega⟩
        have hltz2:(bp:Int)+1<((n-(ip+1):Nat):Int):=by omega
        have hltz3:(bp:Int)<((n-(ip+1):Nat):Int):=by omega
        have hwp2:IntKind.i64.wrap (bp:Int)=(bp:Int):=by rw[IntKind.wrap_i64];omega
        have p2:(0:Int)<=(bp:Int)+1:=by omega
        have e2:((bp:Int)+1).toNat=bp+1:=by omega
        have hkn:(kk:Int)<(n:Int):=by omega
        obtain⟨ax,hax⟩:∃ ax,ax=ip+1+(bp+1):=⟨_,rfl⟩
        have hac:(ip+1)*k+(bp+1)*k=ax*k:=by rw[hax,wU (ip+1)]
        have hap:(ip+1)*k+bp*k=(ax-1)*k:=by rw[<- wU];congr 1;omega
        have r1:dk[ax]! = ax:=HD.out ax (by omega) (by omega);have r0:dk[ax-1]! = ax-1:=HD.out (ax-1) (by omega) (by omega);have hcls:∀ n' os',grow ((sortWorldK enc k w blk 0 m2 dk os2).drewN n') os'=sortWorldK enc k w blk 0 (m2+n') dk (os2++os') := λ n' os'=>sortWorldK_grown_c enc k w blk 0 m2 n' dk os2 os';have hHc:∀ n' os',HoldsK enc k (grow ((sortWorldK enc k w blk 0 m2 dk os2).drewN n') os') blk 0 dk := λ n' os'=>by rw[hcls];exact holdsK_sortWorldK_c enc k w blk 0 (Array.range n) dk _ _ HH.out hblk (by rw[hdk,hrs])
        have lj:∀ n' os',Sem.run P (loadCellsFrom ⟨blk,(ip+1)*k+(bp+1)*k,none⟩ 0 k #[]) (grow ((sortWorldK enc k w blk 0 m2 dk os2).drewN n') os') = .ok (enc ax).toArray (grow ((sortWorldK enc k w blk 0 m2 dk os2).drewN n') os') := λ n' os'=>by
         have:=HoldsK.cells (hHc n' os') HK.out (i:=ax) (by rw[hdk];omega);rw[r1,wG,<- hac]at this;exact run_loadCellsFrom_list P _ _ _ k (HK.out _) this
        have lp:∀ n' os',Sem.run P (loadCellsFrom ⟨blk,(ip+1)*k+bp*k,none⟩ 0 k #[]) (grow ((sortWorldK enc k w blk 0 m2 dk os2).drewN n') os') = .ok (enc (ax-1)).toArray (grow ((sortWorldK enc k w blk 0 m2 dk os2).drewN n') os') := λ n' os'=>by
         have:=HoldsK.cells (hHc n' os') HK.out (i:=ax-1) (by rw[hdk];omega);rw[r0,wG,<- hap]at this;exact run_loadCellsFrom_list P _ _ _ k (HK.out _) this
        have hcg:∀ n' os',Calls P q #[.agg (enc ax).toArray,.agg (enc (ax-1)).toArray] (grow ((sortWorldK enc k w blk 0 m2 dk os2).drewN n') os') λ e w'=>e = .returned (.bool (ef ax (ax-1)))/\∃ q os'',w'=grow ((grow ((sortWorldK enc k w blk 0 m2 dk os2).drewN n') os').drewN q) os'' := λ n' os'=>by
         rw[hcls];exact HC.out _ _ _ hdk ax (ax-1)
        have CLS2:Hid _:=hcls;have HHC:Hid _:=hHc;have HAC:=Lib.hid hac;clear hcls hHc hap hac;generalize hwq2:sortWorldK enc k w blk 0 m2 dk os2=wq2 at lj lp hcg CLS2 HHC |-
        have hlA:(enc ax).length=k:=HK.out _;have hA1:∀ v∈enc ax,v.oneCell'=true:=H1.out _;obtain⟨cA,hcA⟩:∃ c,c=enc ax:=⟨_,rfl⟩
        obtain⟨cP,hcP⟩:∃ c,c=enc (ax-1):=⟨_,rfl⟩
        rw[<- hcA]at lj hcg hlA hA1;rw[<- hcP]at lp hcg;have HCA:=Lib.hid hcA;clear hcA hcP;have hT:=HT.out;have hL:=HL.out;rw[show ip+1+(bp+1)=ax from hax.symm]at hT hL;have HAX:=Lib.hid hax;have hax1:0<ax:=by omega
        have hax3:ax<n:=by omega
        clear hax r0 r1;cases hev2:ef ax (ax-1)with
        | true =>
          have hcd:zO ef (ax+1)=zO ef ax:=qt1 hax1 hev2;have HT2:Hid (dk.toList.take kk=zO ef (ax+1)):=by show _=_;rw[hcd];exact hT
          have HL2:Hid (kk=(zO ef (ax+1)).length):=by show _=_;rw[hcd];exact hL
          clear hT hL hcd;rw[hev2]at hcg
          go_wp2_with fail
          go_quiet_grown (first | (go_at_fn q;refine Calls.grown_of (hcg _ _)))
          go_wp2
          go_roundg (n-(bp+2))
          case measure=>omega
          case rel =>
           have hax2:ip+1+(bp+2)=ax+1:=by have:=HAX.out;omega
           refine⟨bp+2,kk,_,dk,_,rfl,by go_num,by omega,by omega,by omega,by omega,hdk,CLS2.out nq osq,?_,?_,(show Hid _ from λ j h1 h2=>HD.out j (by omega) h2)⟩
           ·show _=_;rw[hax2];exact HT2.out
           ·show _=_;rw[hax2];exact HL2.out
        | false =>
          have hcd:zO ef (ax+1)=zO ef ax++[ax]:=qGB hev2;have hdl:kk<dk.toList.length:=by rw[wR,hdk];omega
          have HT2:Hid ((dk.setIfInBounds kk ax).toList.take (kk+1)=zO ef (ax+1)):=by
           show _=_;rw[hcd,<- hT,xp,ko,vk (wa _),List.getElem?_set_self hdl];rfl
          have HL2:Hid (kk+1=(zO ef (ax+1)).length):=by show _=_;rw[hcd,wd,<- hL];rfl
          clear hT hL hcd;rw[hev2]at hcg
          go_wp2_with fail
          go_quiet_grown (first | (go_at_fn q;refine Calls.grown_of (hcg _ _)))
          have hw2:grow (wq2.drewN nq) osq=sortWorldK enc k w blk 0 (m2+nq) dk (os2++osq):=CLS2.out nq osq;have lj2:=lj nq osq;have hHd:=HHC.out nq osq;clear lj lp hcg;generalize grow (wq2.drewN nq) osq=wq3 at hw2 hHd lj2 |-
          have hbd:kk*k+cA.length<=(flatK enc k dk).size:=by
           rw[hlA,size_flatK];have:=wu k (show kk+1<=dk.size by omega)
           rwa [kS]at this
          have s1:Sem.run P (storeCells ⟨blk,kk*k,none⟩ cA 0) wq3 = .ok () (wq3.setCells blk (kk*k) cA):=by
           have:=stores_of_holds P hHd (kk*k) cA hbd hA1
           rwa [wG]at this
          have HW3:Hid (wq3.setCells blk (kk*k) cA=sortWorldK enc k w blk 0 (m2+nq) (dk.setIfInBounds kk ax) (os2++osq)):=by
           show _=_;rw[hw2,HCA.out];exact qNE HK.out (m2+nq) dk (os2++osq) hblk kk ax (by omega)
          clear hw2 hHd hbd
          go_wp2
          go_roundg (n-(bp+2))
          case measure=>omega
          case rel =>
           have hax2:ip+1+(bp+2)=ax+1:=by have:=HAX.out;omega
           refine⟨bp+2,kk+1,_,dk.setIfInBounds kk ax,_,by go_num,by go_num,by omega,by omega,by omega,by omega,by simpa using hdk,HW3.out,?_,?_,(show Hid _ from λ j h1 h2=>?_)⟩
           ·show _=_;rw[hax2];exact HT2.out
           ·show _=_;rw[hax2];exact HL2.out
           ·rw[getElem!_set_other _ _ _ _ (by omega)];exact HD.out j (by omega) h2
       ·obtain rfl:n=ip+1+b:=by omega
        have hW:=(Go.AmZ.sort_blks HBK.out enc k m2 dk os2).hb;have hpsz:(putCells id 0 (flatK enc k dk) vs).size=vs.size:=by unfold putCells;rw[wab]
        have hzl:(Builtin.zeroCells zv.cells (ip+1+b-kk)).toList.length=(ip+1+b-kk)*k:=by rw[wR,size_zeroCells,HZK.out]
        have hsum:kk*k+(ip+1+b-kk)*k=(ip+1+b)*k:=by rw[<- wU];congr 1;omega
        have hle:(ip+1+b)*k<=vs.size:=wz (wu _ hnc) HCS.out;obtain⟨new,hnew⟩:∃ new,new=(putCells id 0 (flatK enc k dk) vs).toList.take (kk*k)++(Builtin.zeroCells zv.cells (ip+1+b-kk)).toList++(putCells id 0 (flatK enc k dk) vs).toList.drop (kk*k+(Builtin.zeroCells zv.cells (ip+1+b-kk)).toList.length):=⟨_,rfl⟩
        have hcl:∀ ty,(Builtin.clear_ #[23] ty #[.slice (some ⟨blk,kk*k,none⟩) (ip+1+b-kk) (cap-kk)]).run P (sortWorldK enc k w blk 0 m2 dk os2) = .ok (.tuple #[]) ((sortWorldK enc k w blk 0 m2 dk os2).setRow blk new.toArray) := λ ty=>by
         rw[hnew];exact qwf _ 23 25 ty zv t22 HVE.out blk (kk*k) (ip+1+b-kk) (cap-kk) (by omega) _ et hW (by rw[hpsz,HZK.out];omega) (HZ1.out _)
        have HN1:Hid (new.take (kk*k)=(putCells id 0 (flatK enc k dk) vs).toList.take (kk*k)):=by
         show _=_;rw[hnew,wn,kT (by rw[wo,wR,hpsz];omega),xG,Nat.min_self]
        have HN2:Hid (new.length=vs.size):=by
         show _=_;rw[hnew];rw[wR]at hzl;simp only[wd,wo,w7,wR,hpsz,hzl];omega
        have hkc:¬ (cap=kk):=by omega
        have hkc2:(kk:Int)<=(cap:Int):=by omega
        have hkn:(kk:Int)<=((ip+1+b:Nat):Int):=by omega
        clear hW hpsz hzl hsum hle hnew;have HW:Hid _:=(⟨dk,m2,os2,rfl⟩:∃(d:Array Nat) (m:Nat) (os:Array Obj),sortWorldK enc k w blk 0 m2 dk os2=sortWorldK enc k w blk 0 m d os)
        generalize hwq2:sortWorldK enc k w blk 0 m2 dk os2=wq2 at hcl |-
        have HWQ:=Lib.hid hwq2;clear hwq2 HW;have HDK:=Lib.hid hdk
        go_wp2_with (simp only[hcl])
        go_ret
        have hL:=HL.out;rw[<- hL];exact⟨rfl,dk,m2,os2,new,HDK.out,HT.out,.inr ⟨HN1.out,HN2.out,by rw[HWQ.out]⟩⟩
   ·obtain rfl:i=n:=by omega
    have hci:zO ef i=List.range i:=qxr λ j h1 h2=>HE.out j h1 h2;have HCI:=Lib.hid hci;clear hci
    go_wp2
    go_ret
    rw[HCI.out,xD];exact⟨rfl,Array.range i,_,_,[],hrs,by simp,.inl rfl⟩
end Go.Proofs.YtinbdcelmgfniaaGreatDoor
namespace Go.AmZ
open Go Go.RowKit Go.GxZ Go.Sort Go.Proofs Go.Shelf Go.Proofs.YtinbdcelmgfniaaGreatDoor
def qj0{α:Type}(F:α->α->Option Bool)(l:List α)(i j:Nat):Bool:=match l[i%l.length]?,l[j%l.length]? with
 |some x,some y=>(F x y).getD false
 |_,_=>false
def qCW{α:Type}(F:α->α->Option Bool):List α->Option (List α)
 |[]=>some []
 |x::l=>cond (Nat.ble (x::l).length 100000&&qc9 F (x::l)) (some (pick (x::l) (zO (qj0 F (x::l)) (x::l).length))) none
def qwC{α:Type}(F:α->α->Option Bool)(l:List α):Option (Unit×List α×Unit):=match qCW F l with
 |some a=>some ((),a,())
 |none=>none
theorem qJy{α:Type}{F:α->α->Option Bool}{l:List α}{r:Unit×List α×Unit}(h:qwC F l=some r):∃a,qCW F l=some a/\r=((),a,()):=by
 unfold qwC at h;split at h
 .cases h;exact⟨_,‹_›,rfl⟩
 .cases h
theorem qAp{P:Program}{f:FuncId}{g:quY}(e:qg0 P f)(h:∀a,g.fn a=none):qT P f (mgP g):=by
 refine⟨e,λ Γ σ w d c r j i b=>?_⟩;unfold mgP at b;split at b
 .rw[h]at b;cases b
 .cases b
theorem qBp{b:Nat->Nat->Bool}{n:Nat}:∀i∈zO b n,i<n:=λ i a=>xb.1 (kJ.1 a).1
theorem qri{enc:Nat->List Value}{k:Nat}(a:∀x,(enc x).length=k):∀(l:List Nat) (i j:Nat),j<k->(l.flatMap enc)[i*k+j]?=(l[i]?).bind λ x=>(enc x)[j]?
 |[],i,j,_=>by simp
 |x::l,0,j,b=>by
   rw[xj,kR,wG,List.getElem?_append_left (by rw[a];exact b)];rfl
 |x::l,i+1,j,b=>by
   rw[xj,List.getElem?_append_right (by rw[a,kS];omega),a];have:(i+1)*k+j-k=i*k+j:=by rw[kS];omega
   rw[this];exact qri a l i j b
theorem qAu{enc:Nat->List Value}{k:Nat}(a:∀x,(enc x).length=k):∀l:List Nat,(l.flatMap enc).length=l.length*k
 |[]=>by simp
 |x::l=>by rw[xj,wd,a,qAu a l,wx,kS,wax]
theorem qwn{c:Type}{f:List AV->Option c}{b:List (List AV)}{l:List c}(h:zl f b=some l):∀{a:List Nat},(∀i∈a,i<l.length)->zl f (pick b a)=some (pick l a)
 |[],_=>rfl
 |i::a,e=>by
   have g:=e i (wh ..);have o:=zb h
   have e1:pick b (i::a)=b[i]'(by omega)::pick b a:=by
    unfold pick;rw[xk,List.getElem?_eq_getElem (by omega)]
   have n:pick l (i::a)=l[i]::pick l a:=by
    unfold pick;rw[xk,List.getElem?_eq_getElem g]
   let⟨v,d,m⟩:=J0 h (List.getElem?_eq_getElem (show i<b.length by omega));rw[List.getElem?_eq_getElem g]at d;cases d;rw[e1,n];exact je.2 ⟨_,_,m,qwn h λ j k=>e j (we _ k),rfl⟩
theorem qNn(n:Nat):∀v∈(Builtin.zeroCells (Value.cells (.agg #[.int .i64 0,.string ⟨#[]⟩,.int .i64 0,.slice none 0 0])) n).toList,v.oneCell'=true:=by
 intro v a;unfold Builtin.zeroCells at a;rw[Array.mem_toList_iff]at a;obtain⟨i,_,rfl⟩:=Array.mem_map.1 a;have c:(Value.cells (.agg #[.int .i64 0,.string ⟨#[]⟩,.int .i64 0,.slice none 0 0])).size=4:=rfl;rw[c];have b:i%4<4:=xU _ (by decide);generalize i%4=r at b
 match r,b with
 |0,_|1,_|2,_|3,_=>rfl
set_option maxHeartbeats 1000000 in
theorem qDC{g:FuncId}{F:T->T->Option Bool}(hF:Fn2 Go.Proofs.Tryz.prog g .term (λ b:Bool => .bool b) F){fn:List T->Option (Unit × List T × Unit)}(hfn:∀ l r,fn l=some r->∃ l',qCW F l=some l'/\r=((),l',())) :
  qT Go.Proofs.Tryz.prog 140 (sgP ⟨[.row .term,.clo g 0],[.one (.row .term)],λ x=>fn x.1⟩):=by
 have c0 := λ p cap fv w=>qLU (P:=Go.Proofs.Tryz.prog) Go.Proofs.Tryz.func140 (by kernel_rfl) Go.Proofs.Tryz.underlying0 Go.Proofs.Tryz.isAgg0 Go.Proofs.Tryz.sizeOf0 Go.Proofs.Tryz.zeroValue0 Go.Proofs.Tryz.underlying3 Go.Proofs.Tryz.isAgg3 Go.Proofs.Tryz.sizeOf3 Go.Proofs.Tryz.zeroValue3 Go.Proofs.Tryz.underlying4 Go.Proofs.Tryz.isAgg4 Go.Proofs.Tryz.sizeOf4 Go.Proofs.Tryz.zeroValue4 Go.Proofs.Tryz.underlying23 Go.Proofs.Tryz.isAgg23 Go.Proofs.Tryz.sizeOf23 Go.Proofs.Tryz.zeroValue23 Go.Proofs.Tryz.underlying29 Go.Proofs.Tryz.isAgg29 Go.Proofs.Tryz.sizeOf29 Go.Proofs.Tryz.zeroValue29 p cap fv w
 have cP := λ w blk n cap et vs h1 h2 h3 h4 h5 enc h6 h7 h8 ef h9=>qKG (P:=Go.Proofs.Tryz.prog) Go.Proofs.Tryz.func140 (by kernel_rfl) Go.Proofs.Tryz.underlying0 Go.Proofs.Tryz.isAgg0 Go.Proofs.Tryz.sizeOf0 Go.Proofs.Tryz.zeroValue0 Go.Proofs.Tryz.underlying3 Go.Proofs.Tryz.isAgg3 Go.Proofs.Tryz.sizeOf3 Go.Proofs.Tryz.zeroValue3 Go.Proofs.Tryz.underlying4 Go.Proofs.Tryz.isAgg4 Go.Proofs.Tryz.sizeOf4 Go.Proofs.Tryz.zeroValue4 Go.Proofs.Tryz.underlying23 Go.Proofs.Tryz.isAgg23 Go.Proofs.Tryz.sizeOf23 Go.Proofs.Tryz.zeroValue23 Go.Proofs.Tryz.underlying29 Go.Proofs.Tryz.isAgg29 Go.Proofs.Tryz.sizeOf29 Go.Proofs.Tryz.zeroValue29
  4 (by decide) Go.Proofs.Tryz.isAgg25 Go.Proofs.Tryz.sizeOf25 _ Go.Proofs.Tryz.zeroValue25 rfl qNn w blk n cap et vs g h1 h2 h3 h4 h5 enc h6 h7 h8 (λ args w=>qiE hF.1 args w) ef h9
 have hag:∀ v:T,yR .term v = .agg (qe .term v) := λ _=>rfl;refine⟨QO Go.Proofs.Tryz.func140 (by kernel_rfl),λ Γ σ w args vals r hi hr hp=>?_⟩;unfold sgP at hp;split at hp<;>try cases hp
 rename_i x hx;split at hp<;>cases hp;rename_i v0 hv0;obtain⟨l,_⟩:=x;obtain⟨l',hl',rfl⟩:=hfn _ _ hv0;obtain⟨y0,ys0,nr,rfl,hy0,hx1⟩:=qv2 hx;obtain⟨ys1,rfl,hx2⟩:=qIz (g:=g) (r:=[]) hx1;obtain⟨rfl,hbx,hrw⟩:=qlL hx2;clear hx hx1 hx2 hv0 hfn;obtain⟨u0,r0,rfl,hu0,hr⟩:=hr.uncons;obtain⟨u1,r1,rfl,hu1,hr⟩:=hr.uncons;have:=hr.nil_inv;subst this
 have hu1:u1 = .func (.func g) #[] #[]:=by
  cases hu1 with
  | fn _ _ us hn _=>obtain rfl:=wi hn;rfl
 subst hu1;have hb0 : σ.bx=[]:=wi hbx.symm
 have nil0:∀(p:Option Addr),l'=[]->Jm Go.Proofs.Tryz.prog Γ σ w 140 [.slice p 0 0,.func (.func g) #[] #[]] (zY (qap [.one (.row .term)] σ.rw.length (l',())),some ⟨[],σ.rw.map QW++Jy [.one (.row .term)] (l',()),List.range σ.bx.length,List.range σ.rw.length⟩) := λ p hl=>by
  subst hl;refine(c0 p 0 _ w).mono ?_;rintro e w' ⟨rfl,rfl⟩;obtain⟨Γ2,z1,z2,z3,z4⟩:=qQG (a := .term) hi (.refl _ _) hi hb0 p;exact⟨_,Γ2,rfl,z1,z2,z3,z4⟩
 rcases qhX hy0 with⟨hnr,R,rfl,hR,hRk,hRf,hRd⟩ | ⟨hnr,hl0,hy⟩
 ·have H:=hi.row 0 R hR;have hcl:R.c.length=l.length:=zb hRd;have hlk:∀ e∈R.c,e.length=Ty.size .term := λ e he=>(H.len e he).trans hRk;obtain⟨p,cap,rfl,hcap,hrm⟩:=qzA hi hR hRk hRf hu0;rcases hrm with h0 | ⟨rfl,hz,vs,et,hvs,hvsz,hfit,hca,hxl,h1⟩
  ·have hl0:l=[]:=wi (by omega);have hl2:l'=[]:=by rw[hl0]at hl';cases hl';rfl
   have hrc:R.c.length=0:=by omega
   rw[hrc,h0];exact nil0 p hl2
  ·by_cases hl0:l=[]
   ·have hl2:l'=[]:=by rw[hl0]at hl';cases hl';rfl
    have hrc:R.c.length=0:=by rw[hcl,hl0];rfl
    rw[hrc];subst hl2;refine qk1 (a := .term) hi hb0 hR hRk hRf.1 hRf.2 hz (l:=[]) (c:=[]) (xs:=[]) (n:=0) rfl rfl (by intro e he;cases he) (by intro e he;cases he) (λ i e j x h=>by cases h) ?_;refine(c0 _ cap _ w).mono ?_;rintro e w' ⟨rfl,rfl⟩;exact⟨Γ.cur 0,cap,vs,et,rfl,hvs,wg _,hfit,by rw[kR];rfl,.inl ⟨rfl,hvsz⟩,rfl,rfl,rfl,wa _,wa _,λ _ _ _=>rfl⟩
   ·have hlpos:0<l.length:=xE.2 hl0;obtain⟨n,hn⟩:∃ n,n=l.length:=⟨_,rfl⟩
    have hnc:R.c.length=n:=hcl.trans hn.symm;rw[hnc]at hca hxl h1 hcap |-
    have hns:n*Ty.size .term<=vs.size:=wz (wu _ hcap) hfit
    have hv':Nat.ble l.length 100000=true/\qc9 F l=true/\l'=pick l (zO (qj0 F l) l.length):=by
     cases l with
     | nil=>exact absurd rfl hl0
     | cons y l =>
       replace hl':cond _ _ _=some l':=hl'
       cases hb:(Nat.ble (y::l).length 100000&&qc9 F (y::l))with
       | false =>
         replace hl':cond (Nat.ble (y::l).length 100000&&qc9 F (y::l)) _ _=some l':=hl'
         rw[hb]at hl';cases hl'
       | true =>
         replace hl':cond (Nat.ble (y::l).length 100000&&qc9 F (y::l)) _ _=some l':=hl'
         have hb':=hb;rw[wc]at hb';rw[hb]at hl';cases hl';exact⟨hb'.1,hb'.2,rfl⟩
    obtain⟨v1,v2,v4⟩:=hv';have v1:l.length<=100000:=kG v1;have hER:∀{q:Nat} {y:T},l[q]?=some y->RepL Γ (qe .term y) (qcc vs (Ty.size .term) q)/\∀ u∈qcc vs (Ty.size .term) q,u.oneCell'=true := λ hq=>qEJ hnc hlk hRd hca hns hq;have hlast:∀ i,i % n<n := λ i=>xU _ (by omega);obtain⟨enc,henc⟩:∃ enc:Nat->List Value,enc = λ i=>qcc vs (Ty.size .term) (i % n):=⟨_,rfl⟩
    have hek:∀ i,(enc i).length=Ty.size .term := λ i=>by rw[henc];exact quh (hlast i) hns
    have hlget:∀ i,∃ y,l[i % n]?=some y := λ i=>⟨_,List.getElem?_eq_getElem (by rw[<- hn];exact hlast i)⟩
    have he1:∀ i,∀ u∈enc i,u.oneCell'=true := λ i u hu=>by
     rw[henc]at hu;obtain⟨y,hy⟩:=hlget i;exact(hER hy).2 u hu
    have hrange:(Array.range n).size=n:=vL;have hvsb:w.heap[Γ.cur 0]?=some (.cells vs et (0,0)):=hvs;have hmem0:∀ off,Γ.mem (Γ.cur 0) off=none := λ off=>H.un hz off (by rw[hRf.1,kR,H.off hRf.2];exact wg _)
    have hH:HoldsK enc (Ty.size .term) w (Γ.cur 0) 0 (Array.range n):=by
     intro j hj;rw[size_flatK,hrange]at hj;obtain⟨q1,q2,q3⟩:=qp8 j (Ty.size .term) n hj;have hjs:j<vs.size:=wA hj hns;constructor
     ·rw[get_flatK _ _ _ _ (by rw[hrange];exact hj)];have e1:(Array.range n)[j / (Ty.size .term)]! = j / (Ty.size .term):=by rw[getElem!_pos _ _ (by rw[hrange];exact q1)];simp
      rw[e1,henc];show _=some ((qcc vs (Ty.size .term) (j / (Ty.size .term) % n))[j % (Ty.size .term)]!);rw[xr q1];have e2:(qcc vs (Ty.size .term) (j / (Ty.size .term)))[j % (Ty.size .term)]?=some vs[j]:=by rw[qpC q3,q2];exact Array.getElem?_eq_getElem hjs
      rw[wG,Blk.cell hvs,List.getElem!_eq_getElem?_getD,e2,Array.getElem?_eq_getElem hjs];rfl
     ·exact Blk.free hvs _
    have heq:∀(m:Nat) (os:Array Obj) (dk:Array Nat),dk.size=n->∀ x y,Calls Go.Proofs.Tryz.prog g #[.agg (enc x).toArray,.agg (enc y).toArray] (sortWorldK enc (Ty.size .term) w (Γ.cur 0) 0 m dk os) λ e w'=>e = .returned (.bool (qj0 F l x y))/\∃ q' os',w'=grow ((sortWorldK enc (Ty.size .term) w (Γ.cur 0) 0 m dk os).drewN q') os':=by
     intro m os dk hdk x y;have B:=sort_blks hvsb enc (Ty.size .term) m dk os;obtain⟨W,hW⟩:∃ W,W=sortWorldK enc (Ty.size .term) w (Γ.cur 0) 0 m dk os:=⟨_,rfl⟩
     rw[<- hW]at B |-
     have hiW:Inv (bare Γ) emp W:=hi.bare λ b o u e=>by
      have hne:b ≠ Γ.cur 0 := λ hb=>by rw[hb,hmem0]at e;cases e
      have hc:=(hi.mem b o u e).1;have hblt:=hi.mem_lt e;rw[show W.cell? _=w.cell? _ from World.cell?_of_block (B.other b hblt hne)];exact hc
     have rep:∀(i:Nat) (y:T),l[i % n]?=some y->Rep (bare Γ) (yR .term y) (.agg (enc i).toArray) := λ i y hy=>by
      obtain⟨q1,q2⟩:=hER hy;rw[hag];have:enc i=qcc vs (Ty.size .term) (i % n):=by rw[henc]
      rw[this];refine .agg _ _ q1.len q2 λ j z u a b=>(q1.rep j z u a b).bare (zq .term y z (wb a))
     obtain⟨lx,hx⟩:=hlget x;obtain⟨ly,hy⟩:=hlget y;have hsome:=ww.1 (ww.1 v2 lx (wb hx)) ly (wb hy);obtain⟨c,hc⟩:=wak.1 hsome
     have hcf:qj0 F l x y=c:=by
      unfold qj0;rw[<- hn,hx,hy];simp only;rw[hc];rfl
     rw[hcf];have hcall:=hF.2 hiW (rep x lx hx) (rep y ly hy) hc;refine Calls.mono hcall ?_;rintro e w' ⟨rfl,hid⟩;exact⟨rfl,hid.grow⟩
    have hcall:=cP w (Γ.cur 0) n cap et vs hvsb hfit hcap (by omega) (by omega) enc hek he1 hH (qj0 F l) heq;obtain⟨ix,hix⟩:∃ ix,ix=zO (qj0 F l) n:=⟨_,rfl⟩
    rw[<- hix]at hcall;have hixlt:∀ i∈ix,i<n := λ i hi=>by rw[hix]at hi;exact qBp i hi
    have hixl:∀ i∈ix,i<l.length := λ i hi=>by rw[<- hn];exact hixlt i hi
    have hixc:∀ i∈ix,i<R.c.length := λ i hi=>by rw[hnc];exact hixlt i hi
    have hl'e:l'=pick l ix:=by rw[v4,<- hn,hix]
    have hl'n:l'.length=ix.length:=by rw[hl'e,qDW hixl]
    have pm:∀ e∈pick R.c ix,e∈R.c := λ e he=>by
     unfold pick at he;obtain⟨i,_,h⟩:=kF.1 he;exact wb h
    refine qk1 (a := .term) hi hb0 hR hRk hRf.1 hRf.2 hz (l:=l') (c:=pick R.c ix) (xs:=ix.flatMap enc) (n:=ix.length) hl'n.symm (by rw[hl'e];exact qwn hRd hixl) (λ e he=>hlk e (pm e he)) (λ e he=>H.plain e (pm e he)) (λ i e j x h1 h2=>?_) ?_
    ·rw[qvB hixc]at h1;cases hp:ix[i]? with
     | none=>rw[hp]at h1;cases h1
     | some p =>
       rw[hp]at h1;have h1:R.c[p]?=some e:=h1;have hj:j<Ty.size .term:=by have:=getElem?_lt h2;rwa [hlk e (wb h1)]at this
       obtain⟨u,u1,u2⟩:=hca p e j x h1 h2;refine⟨u,?_,u2⟩;have hpn:p<n:=hixlt p (wb hp);rw[qri hek _ _ _ hj,hp];show(enc p)[j]?=some u;rw[henc];show(qcc vs (Ty.size .term) (p % n))[j]?=some u;rw[xr hpn,qpC hj,<- Array.getElem?_toList];rw[List.getElem?_take]at u1;split at u1
       ·exact u1
       ·cases u1
    ·refine Calls.mono hcall ?_;rintro e w' ⟨rfl,dk,m,os,new,hdk,htk,hw⟩;have B:=sort_blks hvsb enc (Ty.size .term) m dk os;have hpsz:(putCells id 0 (flatK enc (Ty.size .term) dk) vs).size=vs.size:=by unfold putCells;rw[wab]
     have hixn:ix.length<=n:=by
      have:=congrArg List.length htk;rw[wo]at this;have h2:dk.toList.length=n:=by rw[wR,hdk]
      omega
     have hlen:ix.length*Ty.size .term<=n*Ty.size .term:=wu _ hixn
     have hxs:(putCells id 0 (flatK enc (Ty.size .term) dk) vs).toList.take (ix.length*Ty.size .term)=ix.flatMap enc:=by
      apply kY;intro t;by_cases ht:t<ix.length*Ty.size .term
      ·obtain⟨q1,q2,q3⟩:=qp8 t (Ty.size .term) ix.length ht;rw[List.getElem?_take,if_pos ht,Array.getElem?_toList];unfold putCells;rw[Array.getElem?_mapIdx,Array.getElem?_eq_getElem (by omega),k8,if_pos ⟨wg _,by rw[size_flatK,hdk];omega⟩,Nat.sub_zero,id,get_flatK _ _ _ _ (by rw[hdk];omega)]
       conv=>rhs;rw[<- q2]
       rw[qri hek _ _ _ q3]
       have hd:dk[t / Ty.size .term]?=ix[t / Ty.size .term]?:=by
        rw[<- htk,List.getElem?_take,if_pos q1,Array.getElem?_toList]
       have hdl:t / Ty.size .term<dk.size:=by rw[hdk];omega
       rw[<- hd,Array.getElem?_eq_getElem hdl,getElem!_pos dk _ hdl];show _=(enc dk[t / Ty.size .term])[t % Ty.size .term]?;rw[List.getElem!_eq_getElem?_getD,List.getElem?_eq_getElem (by rw[hek];exact q3)];rfl
      ·rw[List.getElem?_eq_none (by rw[wo];omega),List.getElem?_eq_none (by rw[qAu hek];omega)]
     rcases hw with rfl | ⟨n1,n2,rfl⟩
     ·exact⟨Γ.cur 0,cap,_,et,rfl,B.hb,by omega,by rw[hpsz];exact hfit,hxs,.inl ⟨rfl,hpsz.trans hvsz⟩,B.os,B.tape,B.output,B.size,B.drawn,B.other⟩
     ·have hs:=setRow_heap _ (Γ.cur 0) _ new.toArray et (0,0) B.hb;refine⟨Γ.cur 0,cap,new.toArray,et,rfl,hs,by omega,by rw[kr,n2];exact hfit,?_,.inl ⟨rfl,by rw[kr,n2];exact hvsz⟩,B.os,B.tape,B.output,?_,B.drawn,λ b hb hne=>(setRow_other _ (Γ.cur 0) b _ hne).trans (B.other b hb hne)⟩
      ·rw[<- hxs];exact n1
      ·show w.heap.size<=_;simp only[World.setRow,Array.size_modify];exact B.size
 ·have hl2:l'=[]:=by
    have hl0:l=[]:=hl0;rw[hl0]at hl';cases hl';rfl
  rcases hy with rfl | ⟨f,rfl,hf2⟩
  ·have hu0:=zp hu0;subst hu0;exact nil0 none hl2
  ·cases hu0 with
   | sl _ _ _ a n cap b o us hn _ hf _ _ _ _ _ _ =>
     have hn:n=0:=hn;have hcap:cap=n:=hf (by omega);rw[hcap,hn];exact nil0 a hl2
end Go.AmZ
namespace Go.AmZ
open Go Go.RowKit Go.GxZ
theorem qmt{P:Program}(w:World)(zk:Nat)(t ty e:TypeId)(i:TypeInfo)(z:Value)(size bytes:Nat)(F:P.underlying t=some (.slice e))(H:P.info? e=some i)(I:i.zero=some z)
  (d:i.size=size) (A:i.bytes=bytes) (s:z.cells.size=size) (x:0<size)
  (v:Value) (n:Nat) (xs:List Value) (b:w.ownsRow zk e size v n xs)
  (a:Addr) (m c:Nat) (qj:List Value) (G:qj.length=m*size) (f:∀j u,qj[j]?=some u->w.cell? (a.add j)=some u) (J:∀u∈qj,u.oneCell'=true)
  (B:n+m<=maxLen) (h:(n+m)*bytes<=140737488355328) (l:zk<=w.heap.size):
  ∃p w',(Builtin.append_ #[t,t] ty #[v,.slice (some a) m c]).run P w=.ok p w'/\w'.ownsRow zk e size p (n+m) (xs++qj)/\w.grownBy w' v.ownBlock/\
   (p.ownBlock=v.ownBlock\/∀k,p.ownBlock=some k->w.heap.size<=k):=by
 obtain⟨rfl,rfl⟩|⟨g,cap,Q,rfl,O,R,K,N,M,E⟩:=id b.2
 .have D:xs=[]:=kC.1 (by simpa using b.1);subst D;let⟨p,w',C,r,o,_⟩:=run_append_own (P:=P) w w.heap.size t ty e i z size bytes F H I d A s x (.slice none 0 0) 0 [] (World.ownsRow_nil w _ e size) a m c qj G f J B h (wa _);exact⟨p,w',C,r.mono l,o,.inr λ k y=>(r.lt k y).1⟩
 .by_cases q:n+m<=cap
  .let⟨w',C,r,o⟩:=run_append_own_spare (P:=P) w zk t ty e i size F H d g n cap xs b a m c qj G f J q;exact⟨_,w',C,r,o,.inl rfl⟩
  .let⟨p,w',C,r,o⟩:=run_append_arg_grows (P:=P) w t ty e i z size bytes F H I d A s x ⟨g,0,none⟩ n cap xs b.1 (λ j u L=>b.cells rfl j u L) a m c qj G f (by omega) B h;exact⟨p,w',C,r.mono l,⟨o.os,o.tape,o.output,o.size,λ k y _=>o.block k y (by simp)⟩,.inr λ k y=>(r.lt k y).1⟩
structure qe9 (Γ:Gh) (b:Nat):Prop where
 own:¬ Jg Γ b
 mem:∀o,Γ.mem b o=none
theorem qe9.ext{Γ Γ':Gh}{w w':World}{b:Nat}(h:qe9 Γ b)(c:Ext Γ w Γ' w')(f:b<w.heap.size):qe9 Γ' b/\w'.heap[b]?=w.heap[b]?:=by
 refine⟨⟨λ d=>(c.own b d).elim h.own λ h=>by omega,λ o=>?_⟩,c.block b f h.own⟩;cases e:Γ'.mem b o with
 |none=>rfl
 |some u=>
   obtain a|a|a:=c.memg b o u e
   .rw[h.mem]at a;cases a
   .exact absurd a h.own
   .omega
theorem qe9.new{Γ:Gh}{σ:St}{w:World}(a:Inv Γ σ w){b:Nat}(f:w.heap.size<=b):qe9 Γ b:=by
 refine⟨λ h=>?_,λ o=>?_⟩
 .obtain⟨i,c,rfl⟩|⟨r,c,e,rfl⟩:=h
  .have:=a.box_lt c;omega
  .have:=a.cur_lt c e;omega
 .cases d:Γ.mem b o with
  |none=>rfl
  |some u=>have:=a.mem_lt d;omega
theorem Inv.off{Γ:Gh}{σ:St}{w w':World}(h:Inv Γ σ w)(l:∀k j,¬ qe9 Γ k->w.heap[k]?=some j->w'.heap[k]?=some j):Inv Γ σ w' where
 nb:=h.nb
 nr:=h.nr
 mem:=λ b o u e=>by
  let⟨m,q⟩:=h.mem b o u e;have c:=Array.getElem?_eq_getElem (qtt m);refine⟨?_,q⟩;rw[World.cell?_of_block (w:=w) (a:=⟨b,o,none⟩) ((l b _ (λ f=>by rw[f.mem]at e;cases e) c).trans c.symm)];exact m
 box:=λ i cs e=>by
  have g:i<Γ.nb:=by rw[h.nb];exact getElem?_lt e
  exact(h.box i cs e).lift g (.refl _) λ o c=>l _ _ (λ f=>f.own (.inl ⟨i,g,rfl⟩)) c
 inj:=h.inj
 boxmem:=h.boxmem
 row:=λ r R e=>by
  have d:r<Γ.nr:=by rw[h.nr];exact getElem?_lt e
  exact(h.row r R e).lift d (.refl _) rfl (λ n j c=>l _ _ (λ f=>f.own (.inr ⟨r,d,n,rfl⟩)) c) (λ _ _ p=>p) λ _ i t s=>by omega
 apart:=h.apart
theorem qMp{d Γ:Gh}{σ:St}{w0 w w':World}{e:Option Nat}(a:Ext d w0 Γ w)(m:Inv Γ σ w)(c:w.grownBy w' e)(f:∀b,e=some b->qe9 Γ b/\w0.heap.size<=b)(n:w.drawn<=w'.drawn):Ext d w0 Γ w'/\Inv Γ σ w':=by
 refine⟨⟨a.le,c.os.trans a.os,c.tape.trans a.tape,c.output.trans a.output,wz a.size c.size,λ b i l=>(c.block b (wA i a.size) λ h=>?_).trans (a.block b i l),a.own,a.memg,wz a.drawn n⟩,m.off λ k o j g=>?_⟩
 .have:=(f b h.symm).2;omega
 .rw[c.block k (Array.getElem?_eq_some_iff.1 g).1 λ h=>j (f k h.symm).1];exact g
theorem qe9.grown{Γ:Gh}{w w':World}{a:Option Nat}{b:Nat}(d:w.grownBy w' a)(e:b<w.heap.size)(c:some b≠a):w'.heap[b]?=w.heap[b]?:=d.block b e c
theorem qLL(w:World)(g k:Nat)(u:Value):w.grownBy (w.setCell ⟨g,k,none⟩ u) (some g):=
 ⟨rfl,rfl,rfl,by simp,λ b _ a=>Below.heap_setCell _ _ _ _ λ h=>a (by rw[h])⟩
theorem qlX{w w':World}{B e s g n cap:Nat}{cs:List Value}(h:w.ownsRow B e s (.slice (some ⟨g,0,none⟩) n cap) n cs)(d:w'.heap[g]?=w.heap[g]?):w'.ownsRow B e s (.slice (some ⟨g,0,none⟩) n cap) n cs:=by
 obtain⟨a,_⟩|⟨f,c,b,a,r⟩:=h.2
 .cases a
 .cases a;exact⟨h.1,.inr ⟨g,cap,b,rfl,r.1,by rw[d];exact r.2.1,r.2.2⟩⟩
theorem qcN{w:World}{B e s g n cap:Nat}{cs:List Value}(h:w.ownsRow B e s (.slice (some ⟨g,0,none⟩) n cap) n cs):B<=g/\g<w.heap.size:=h.lt g rfl
theorem qx4{w:World}{B e s g n p cap:Nat}{cs:List Value}(h:w.ownsRow B e s (.slice (some ⟨g,0,none⟩) n cap) n cs)(d:p<=n):w.ownsRow B e s (.slice (some ⟨g,0,none⟩) p cap) p (cs.take (p*s)):=by
 have a:p*s<=n*s:=wu _ d;obtain⟨b,_⟩|⟨q,f,c,b,o,m,l,k,j,i⟩:=h.2
 .cases b
 .cases b;refine⟨by rw[wo,h.1];omega,.inr ⟨g,cap,c,rfl,o,m,wz d l,k,j,?_⟩⟩;rw[<-i,xG,kw a]
theorem qRe{w:World}{B e s g n cap:Nat}{cs:List Value}(h:w.ownsRow B e s (.slice (some ⟨g,0,none⟩) n cap) n cs):n<=cap/\cap<=maxLen:=by
 obtain⟨a,_⟩|⟨m,b,f,a,l,k,d,c,j,i⟩:=h.2
 .cases a
 .cases a;exact⟨d,c⟩
abbrev RD:Ty:=.pair .str (.pair (.int .i64) .bool)
def qjh(Γ:Gh)(σ:St)(cs:List Value)(i:Nat)(t:T)(n:Int)(r:Nat):Prop:=
 ∃R a,σ.rw[r]?=some R/\R.k=4/\R.fz=0/\R.off=false/\R.c=t.kids.map (qe .term)/\Rep Γ (.rs r 0 t.kids.length R.ver false) a/\
  cs[i*5]?=some (.int .i64 t.kind)/\cs[i*5+1]?=some (.string ⟨t.name.toArray⟩)/\cs[i*5+2]?=some (.int .i64 t.sort)/\cs[i*5+3]?=some a/\cs[i*5+4]?=some (.int .i64 n)
structure Stk (B N:Nat) (Γ:Gh) (σ:St) (w:World) (st:List (T×Int)) (ids:List Nat) (g cap:Nat) (cs:List Value):Prop where
 len:ids.length=st.length
 nd:ids.Nodup
 priv:qe9 Γ g
 own:w.ownsRow B N 5 (.slice (some ⟨g,0,none⟩) st.length cap) st.length cs
 node:∀i t n r,st[i]?=some (t,n)->ids[i]?=some r->qjh Γ σ cs i t n r
section
variable {B N:Nat}{Γ Γ':Gh}{σ σ':St}{w w':World}{st:List (T×Int)}{ids:List Nat}{g cap:Nat}{cs:List Value}
theorem qjh.later{i:Nat}{t:T}{n:Int}{r:Nat}(h:qjh Γ σ cs i t n r)(c:Le Γ Γ')(b:∀R,σ.rw[r]?=some R->σ'.rw[r]?=some R):qjh Γ' σ' cs i t n r:=by
 let⟨R,a,l,k,j,g,f,e,d⟩:=h;exact⟨R,a,b R l,k,j,g,f,e.mono c,d⟩
theorem qjh.cells{i:Nat}{t:T}{n:Int}{r:Nat}{cs':List Value}(h:qjh Γ σ cs i t n r)(a:∀j,j<5->cs'[i*5+j]?=cs[i*5+j]?):qjh Γ σ cs' i t n r:=by
 let⟨R,b,k,g,f,e,d,c,q,p,o,m,l⟩:=h;exact⟨R,b,k,g,f,e,d,c,(a 0 (by decide)).trans q,(a 1 (by decide)).trans p,(a 2 (by decide)).trans o,(a 3 (by decide)).trans m,(a 4 (by decide)).trans l⟩
theorem Stk.later(h:Stk B N Γ σ w st ids g cap cs)(a:Ext Γ w Γ' w')(e:∀r,r∈ids->∀R,σ.rw[r]?=some R->σ'.rw[r]?=some R):Stk B N Γ' σ' w' st ids g cap cs:=by
 let⟨d,c⟩:=h.priv.ext a (qcN h.own).2;exact⟨h.len,h.nd,d,qlX h.own c,λ i t n r f b=>(h.node i t n r f b).later a.le (e r (wb b))⟩
theorem Stk.grown{a:Option Nat}(h:Stk B N Γ σ w st ids g cap cs)(c:w.grownBy w' a)(b:some g≠a):Stk B N Γ σ w' st ids g cap cs:=
 ⟨h.len,h.nd,h.priv,qlX h.own (c.block g (qcN h.own).2 b),h.node⟩
theorem Stk.cell(h:Stk B N Γ σ w st ids g cap cs){k:Nat}{u:Value}(a:cs[k]?=some u):w.cell? ⟨g,k,none⟩=some u/\w.frozen? ⟨g,k,none⟩=false:=by
 refine⟨?_,h.own.frozenAt k⟩;rw[h.own.cellAt k (by rw[<-h.own.1];exact getElem?_lt a)];exact a
theorem Stk.at(h:Stk B N Γ σ w st ids g cap cs){i:Nat}{t:T}{n:Int}(b:st[i]?=some (t,n)):∃r,ids[i]?=some r/\qjh Γ σ cs i t n r:=by
 have a:i<ids.length:=by rw[h.len];exact getElem?_lt b
 exact⟨_,List.getElem?_eq_getElem a,h.node i t n _ b (List.getElem?_eq_getElem a)⟩
theorem Stk.left(h:Stk B N Γ σ w st ids g cap cs){i:Nat}{t:T}{n:Int}(l:st[i]?=some (t,n))(a:Int):Stk B N Γ σ (w.setCell ⟨g,i*5+4,none⟩ (.int .i64 a)) (st.set i (t,a)) ids g cap (cs.set (i*5+4) (.int .i64 a)):=by
 have s:=getElem?_lt l;have d:i*5+4<cs.length:=by rw[h.own.1];omega
 refine⟨by rw[wI];exact h.len,h.nd,h.priv,by rw[wI];exact(h.own.stored _ _).1,λ j o m r c f=>?_⟩;rw[List.getElem?_set]at c;split at c
 .rename_i e;subst e;cases c;let⟨R,p,A,z,y,x,v,u,F,E,D,C,G⟩:=h.node i t n r l f;have b:∀q,q≠i*5+4->(cs.set (i*5+4) (.int .i64 a))[q]?=cs[q]?:=λ q k=>by rw[List.getElem?_set_ne (λ e=>k e.symm)]
  refine⟨R,p,A,z,y,x,v,u,(b _ (by omega)).trans F,(b _ (by omega)).trans E,(b _ (by omega)).trans D,(b _ (by omega)).trans C,?_⟩;rw[List.getElem?_set_self d]
 .rename_i e;refine(h.node j o m r c f).cells λ q k=>?_;rw[List.getElem?_set_ne (by omega)]
theorem Stk.push(h:Stk B N Γ σ w st ids g cap cs){s:Value}{nk sk:Int}{nm:List UInt8}{lf:Int}{o:Value}{r:Nat}{R:Row}(F:σ.rw[r]?=some R)(K:R.k=4)(J:R.fz=0)(I:R.off=false)(H:R.c=[])(G:Rep Γ (.rs r 0 0 R.ver false) o)(A:r ∉ ids)
  (l:w'.ownsRow B N 5 s (st.length+1) (cs++[.int .i64 nk,.string ⟨nm.toArray⟩,.int .i64 sk,o,.int .i64 lf])) (z:s.ownBlock=some g\/∀k,s.ownBlock=some k->qe9 Γ k):
  ∃j d,s=.slice (some ⟨j,0,none⟩) ((st.length+1:Nat)) d/\Stk B N Γ σ w' (st++[(.mk nk nm sk [],lf)]) (ids++[r]) j d (cs++[.int .i64 nk,.string ⟨nm.toArray⟩,.int .i64 sk,o,.int .i64 lf]):=by
 have D:=h.own.1
 obtain⟨j,d,v⟩:∃j d,s=.slice (some ⟨j,0,none⟩) ((st.length+1:Nat)) d:=by
  obtain⟨_,O⟩|⟨j,d,L,e,_⟩:=l.2
  .omega
  .exact⟨j,d,e⟩
 subst v;refine⟨j,d,rfl,⟨by simp[h.len],?_,?_,by simpa using l,λ i t n y p f=>?_⟩⟩
 .rw[List.nodup_append];exact⟨h.nd,by simp,λ a E b x=>by simp at x;subst x;exact λ e=>A (e▸E)⟩
 .obtain e|e:=z
  .cases e;exact h.priv
  .exact e j rfl
 .rw[List.getElem?_append]at p f;rw[h.len]at f;split at p
  .rename_i m;rw[if_pos m]at f;refine(h.node i t n y p f).cells λ q M=>?_;rw[List.getElem?_append_left (by omega)]
  .rename_i m;rw[if_neg m]at f
   have C:i=st.length:=by
    have:=getElem?_lt p;simp at this;omega
   subst C;simp at p f;obtain⟨rfl,rfl⟩:=p;subst f
   have u:∀q,(cs++[.int .i64 nk,.string ⟨nm.toArray⟩,.int .i64 sk,o,.int .i64 lf])[st.length*5+q]?=([.int .i64 nk,.string ⟨nm.toArray⟩,.int .i64 sk,o,.int .i64 lf]:List Value)[q]?:=λ q=>by
    rw[List.getElem?_append_right (by omega)];congr 1;omega
   exact⟨R,o,F,K,J,I,H,G,u 0,u 1,u 2,u 3,u 4⟩
theorem Stk.shrink(h:Stk B N Γ σ w st ids g cap cs){p:Nat}(e:p<=st.length):Stk B N Γ σ w (st.take p) (ids.take p) g cap (cs.take (p*5)):=by
 have a:(st.take p).length=p:=by rw[wo];omega
 refine⟨by rw[a,wo,h.len];omega,h.nd.sublist (List.take_sublist _ _),h.priv,by rw[a];exact qx4 h.own e,λ i t n r b c=>?_⟩;rw[List.getElem?_take]at b c;split at b<;>try cases b
 rename_i d;rw[if_pos d]at c;refine(h.node i t n r b c).cells λ j f=>?_;rw[List.getElem?_take,if_pos (by omega)]
theorem Stk.kid(h:Stk B N Γ σ w st ids g cap cs)(v:Ext Γ w Γ' w'){q:Nat}(Z:q<st.length){t:T}{n:Int}(J:st[q]?=some (t,n)){r:Nat}(y:ids[q]?=some r)(x:T)
  (m:∀i s,i<q->ids[i]?=some s->∀R,σ.rw[s]?=some R->σ'.rw[s]?=some R) {R:Row} (M:σ'.rw[r]?=some R) (U:R.k=4) (S:R.fz=0) (Q:R.off=false) (P:R.c=(t.kids++[x]).map (qe .term)) {f:Value} (O:Rep Γ' (.rs r 0 (t.kids.length+1) R.ver false) f):
  Stk B N Γ' σ' (w'.setCell ⟨g,q*5+3,none⟩ f) (st.take q++[(.mk t.kind t.name t.sort (t.kids++[x]),n)]) (ids.take (q+1)) g cap ((cs.set (q*5+3) f).take ((q+1)*5)):=by
 let⟨D,C⟩:=h.priv.ext v (qcN h.own).2
 have l:(st.take q++[(T.mk t.kind t.name t.sort (t.kids++[x]),n)]).length=q+1:=by
  rw[wd,wo];simp;omega
 have G:=qx4 ((qlX h.own C).stored (q*5+3) f).1 (p:=q+1) (by omega);have L:=h.own.1;refine⟨by rw[l,wo,h.len];omega,h.nd.sublist (List.take_sublist _ _),D,by rw[l];exact G,λ i A E s b a=>?_⟩;rw[List.getElem?_take]at a;split at a<;>try cases a
 rename_i H
 have u:∀j,j<5->((cs.set (q*5+3) f).take ((q+1)*5))[i*5+j]?=(cs.set (q*5+3) f)[i*5+j]?:=λ j z=>by
  rw[List.getElem?_take,if_pos (by omega)]
 have d:∀k,k≠q*5+3->(cs.set (q*5+3) f)[k]?=cs[k]?:=λ k I=>by rw[List.getElem?_set_ne (λ e=>I e.symm)]
 rw[List.getElem?_append,wo,kw (by omega)]at b;split at b
 .rename_i o;rw[List.getElem?_take,if_pos o]at b;exact((h.node i A E s b a).later v.le (m i s o a)).cells λ j z=>(u j z).trans (d _ (by omega))
 .rename_i o;have K:i=q:=by omega
  subst K;simp at b;obtain⟨rfl,rfl⟩:=b;rw[y]at a;cases a;let⟨R0,F,b1,b2,b3,b4,b5,b6,Y,X,W,a3,V⟩:=h.node i t n r J y;refine⟨R,f,M,U,S,Q,P,(by show Rep Γ' (.rs r 0 (t.kids++[x]).length R.ver false) f;rw[wd];exact O),(u 0 (by decide)).trans ((d _ (by omega)).trans Y),(u 1 (by decide)).trans ((d _ (by omega)).trans X),(u 2 (by decide)).trans ((d _ (by omega)).trans W),(u 3 (by decide)).trans ?_,(u 4 (by decide)).trans ((d _ (by omega)).trans V)⟩;rw[List.getElem?_set_self (by omega)]
end
end Go.AmZ
namespace Go.AmZ
open Go Go.RowKit Go.GxZ
structure RS (Γ0:Gh) (w0:World) (rd:Val RD) (Γ:Gh) (σ:St) (w:World):Prop where
 x:Ext Γ0 w0 Γ w
 i:Inv Γ σ w
 bx:σ.bx=[qe RD rd]
abbrev qp5(F:Val RD->Option ((Val RD×Unit)×((Int×List UInt8×Int×List T×Int×Unit)×Unit))):qrp:=⟨[.box [.val RD]],[.agg [.val (.int .i64),.val .str,.val (.int .i64),.row .term,.val (.int .i64)]],λ x=>F x.1⟩
section
variable {P:Program}{Γ0 Γ:Gh}{σ:St}{w0 w:World}{rd:Val RD}
theorem RS.drew(h:RS Γ0 w0 rd Γ σ w):RS Γ0 w0 rd Γ σ {w with drawn:=w.drawn+1}:=⟨h.x.trans (Ext.drew _ _),h.i.drew,h.bx⟩
theorem RS.box(h:RS Γ0 w0 rd Γ σ w):w.cell? ⟨Γ.β 0,0,none⟩=some (.string ⟨rd.1.toArray⟩)/\w.cell? ⟨Γ.β 0,1,none⟩=some (.int .i64 rd.2.1)/\w.cell? ⟨Γ.β 0,2,none⟩=some (.bool rd.2.2):=by
 let⟨vs,e,f,a,j⟩:=h.i.box 0 (qe RD rd) (by rw[h.bx];rfl);have d:=QU f;have g:∀(x:Value) (u:Value),Rep Γ (.v x) u->u=x:=λ x u h=>by cases h;rfl
 refine⟨?_,?_,?_⟩<;>rw[d]
 .let⟨u,c,b⟩:=a.get (i:=0) (x:=.v (.string ⟨rd.1.toArray⟩)) rfl;grind
 .let⟨u,c,b⟩:=a.get (i:=1) (x:=.v (.int .i64 rd.2.1)) rfl;grind
 .let⟨u,c,b⟩:=a.get (i:=2) (x:=.v (.bool rd.2.2)) rfl;grind
theorem RS.grown{w':World}{c:Option Nat}(h:RS Γ0 w0 rd Γ σ w)(e:w.grownBy w' c)(d:∀b,c=some b->qe9 Γ b/\w0.heap.size<=b)(f:w.drawn<=w'.drawn):RS Γ0 w0 rd Γ σ w':=
 let⟨a,b⟩:=qMp h.x h.i e d f;⟨a,b,h.bx⟩
theorem RS.set(h:RS Γ0 w0 rd Γ σ w){g:Nat}(a:qe9 Γ g)(c:w0.heap.size<=g)(k:Nat)(u:Value):RS Γ0 w0 rd Γ σ (w.setCell ⟨g,k,none⟩ u):=
 h.grown (qLL w g k u) (λ b e=>by cases e;exact⟨a,c⟩) (wa _)
theorem RS.put4(h:RS Γ0 w0 rd Γ σ w){b:Nat}(a:qe9 Γ b)(c:w0.heap.size<=b)(g f e d:Value):RS Γ0 w0 rd Γ σ ((((w.setCell ⟨b,0,none⟩ g).setCell ⟨b,1,none⟩ f).setCell ⟨b,2,none⟩ e).setCell ⟨b,3,none⟩ d):=
 (((h.set a c 0 g).set a c 1 f).set a c 2 e).set a c 3 d
theorem qFc:Rep Γ (.sl 4 [] 1) (.slice none 0 0):=.sl _ _ _ _ 0 0 0 0 (λ _ _=>undef) rfl (λ _=>wa _) (λ _=>rfl) (λ e h=>by cases h) (λ e h=>by cases h) (by decide) (.inl rfl) (λ i e j x h=>by cases h) (λ i e j x h=>by cases h)
theorem RS.alloc(h:RS Γ0 w0 rd Γ σ w)(o:Obj):RS Γ0 w0 rd Γ σ (w.alloc o):=
 h.grown (World.grownBy_alloc w o none) (λ b e=>by cases e) (wa _)
theorem qx3{f:FuncId}{F:Val RD->Option ((Val RD×Unit)×((Int×List UInt8×Int×List T×Int×Unit)×Unit))}(C:qT P f (sgP (qp5 F))){b:Val RD}{nk sk lf:Int}{nm:List UInt8}{ks:List T}(A:F rd=some ((b,()),((nk,nm,sk,ks,lf,()),())))
  (h:RS Γ0 w0 rd Γ σ w):Calls P f #[.pointer (some ⟨Γ.β 0,0,none⟩)] w λ e w'=>∃Γ' σ' o,e=.returned (.agg #[.int .i64 nk,.string ⟨nm.toArray⟩,.int .i64 sk,o,.int .i64 lf])/\Ext Γ w Γ' w'/\RS Γ0 w0 b Γ' σ' w'/\σ'.rw=σ.rw++[⟨4,ks.map (qe .term),0,0,false⟩]/\Rep Γ' (.rs σ.rw.length 0 ks.length 0 false) o:=by
 have l:Γ.nb=1:=by rw[h.i.nb,h.bx];rfl
 have g:Qu σ [.ptr 0 0] (sgP (qp5 F))=some (.agg [.v (.int .i64 nk),.v (.string ⟨nm.toArray⟩),.v (.int .i64 sk),.rs σ.rw.length 0 ks.length 0 false,.v (.int .i64 lf)],some ⟨[qe RD b],σ.rw++[⟨4,ks.map (qe .term),0,0,false⟩],0::σ.wr,σ.wrr⟩):=by
  let⟨I,rw,c,a⟩:= σ;have m:I=[qe RD rd]:=h.bx;subst m;have B:qL RD ((qe RD rd).take (Ty.size RD))=some rd:=j9 RD rd
  have m:qjv ⟨[qe RD rd],[],[],[]⟩ [.val RD] 0 0 (.ptr 0 0)=some ((rd,()),0):=by
   show(match qL RD ((qe RD rd).take (Ty.size RD))with
    |some v=>match qgX ⟨[qe RD rd],[],[],[]⟩ [] 0 ((qe RD rd).drop (Ty.size RD))with
      |some (vs,n)=>some ((v,vs),n)
      |none=>none
    |none=>none)=_
   rw[B];rfl
  have s:dS ⟨[qe RD rd],[],[],[]⟩ (qp5 F).args 0 0 [.ptr 0 0]=some (rd,()):=by
   show(match qjv ⟨[qe RD rd],[],[],[]⟩ [.val RD] 0 0 (.ptr 0 0)with
    |some (v,k)=>match dS ⟨[qe RD rd],[],[],[]⟩ [] 1 k []with
      |some vs=>some (toB [.val RD] v,vs)
      |none=>none
    |none=>none)=_
   rw[m];rfl
  have z:sgP (qp5 F) ⟨[qe RD rd],[],[],[]⟩ [.ptr 0 0]=some (.agg [.v (.int .i64 nk),.v (.string ⟨nm.toArray⟩),.v (.int .i64 sk),.rs 0 0 ks.length 0 false,.v (.int .i64 lf)],some ⟨[qe RD b],[⟨4,ks.map (qe .term),0,0,false⟩],[0],[]⟩):=by
   unfold sgP;rw[s];dsimp only;rw[A];rfl
  have q:qgF ⟨[qe RD rd],rw,c,a⟩ [.ptr 0 0]=true:=rfl;have H:qQ ⟨[qe RD rd],rw,c,a⟩ (QH ⟨[qe RD rd],rw,c,a⟩ [.ptr 0 0]) (qbE ⟨[qe RD rd],rw,c,a⟩ [.ptr 0 0])=⟨[qe RD rd],[],[],[]⟩:=rfl;unfold Qu;rw[q]
  show(match sgP (qp5 F) (qQ ⟨[qe RD rd],rw,c,a⟩ (QH ⟨[qe RD rd],rw,c,a⟩ [.ptr 0 0]) (qbE ⟨[qe RD rd],rw,c,a⟩ [.ptr 0 0])) [.ptr 0 0]with
   |some r=>some (qh3 ⟨[qe RD rd],rw,c,a⟩ [0] [] r)
   |none=>none)=_
  rw[H,z];rfl
 refine(qpB (λ Γ σ j r y d t=>C.2 Γ σ w j _ r y d t) h.i (waK (Rep.ptr 0 0 (by rw[l];exact Nat.zero_lt_one)) .nil) g).mono ?_;rintro e w' ⟨v,Γ',rfl,p,E,D,O⟩;cases D with
 |agg _ us u G d=>
 match us,u with
 |[u0,u1,u2,u3,u4],_=>
 have N:=d 0 _ _ rfl rfl;have M:=d 1 _ _ rfl rfl;have L:=d 2 _ _ rfl rfl;have K:=d 3 _ _ rfl rfl;have J:=d 4 _ _ rfl rfl;cases N;cases M;cases L;cases J;exact⟨Γ',_,u3,rfl,p,⟨h.x.trans p,E,rfl⟩,rfl,K⟩
theorem qFe(g:Inv Γ σ w){cs:List Value}{i:Nat}{t:T}{n:Int}{r:Nat}(h:qjh Γ σ cs i t n r):
  ∃a σ1 c,σ1.bx=σ.bx/\(∀b,b≠r->σ1.rw[b]?=σ.rw[b]?)/\Ext Γ w a w/\Inv a σ1 w/\cs[i*5+3]?=some c/\Rep a (.sl 4 (t.kids.map (qe .term)) 1) c/\c.oneCell'=true:=by
 let⟨R,c,k,x,v,u,s,j,C,B,A,p,z⟩:=h;let⟨m,f,o,l⟩:=qwO g k σ.wrr;refine⟨_,{σ with rw:=σ.rw.modify r qn5,wrr:=σ.wrr},c,rfl,λ b q=>?_,qli f w,o,p,?_,j.one rfl⟩
 .grind
 .have:=qlS g f.le (y:=.rs r 0 t.kids.length R.ver false) (λ b d R' e=>by
    simp only[rsC,wD]at d;subst d;rw[k]at e;cases e;exact l) j
  grind [qY,qmJ]
theorem qhE{t:T}{a:Value}(h:Rep Γ (.sl 4 (t.kids.map (qe .term)) 1) a):RepL Γ (qe .term t) [.int .i64 t.kind,.string ⟨t.name.toArray⟩,.int .i64 t.sort,a]:=by
 have b:qe .term t=[.v (.int .i64 t.kind),.v (.string ⟨t.name.toArray⟩),.v (.int .i64 t.sort),.sl 4 (t.kids.map (qe .term)) 1]:=by
  let⟨k,n,s,l⟩:=t;show JQ _=_;rw[JQ,qlw];rfl
 rw[b];exact waK (.v _ rfl) (waK (.v _ rfl) (waK (.v _ rfl) (waK h .nil)))
theorem qpm{k s:Int}{b:ByteArray}{a:Value}(h:a.oneCell'=true):∀u∈([.int .i64 k,.string b,.int .i64 s,a]:List Value),u.oneCell'=true:=by
 intro u c;simp only[wv,xP,or_false]at c;obtain rfl|rfl|rfl|rfl:=c<;>first|rfl|exact h
theorem qPc(l:Inv Γ σ w){t:T}{b:Value}(h:Rep Γ (.sl 4 (t.kids.map (qe .term)) 1) b)(e:TypeId):
  ∃Γ',Ext Γ w Γ' (w.alloc (.cells #[.int .i64 t.kind,.string ⟨t.name.toArray⟩,.int .i64 t.sort,b] e))/\Inv Γ' σ (w.alloc (.cells #[.int .i64 t.kind,.string ⟨t.name.toArray⟩,.int .i64 t.sort,b] e))/\Rep Γ' (.sl (Ty.size .term) [qe .term t] 2) (.slice (some ⟨w.heap.size,0,none⟩) 1 1):=by
 let⟨Γ',d,g,m⟩:=qAD l (vs:=[.int .i64 t.kind,.string ⟨t.name.toArray⟩,.int .i64 t.sort,b]) (qpm (h.one rfl)) e;refine⟨Γ',d,g,.sl _ _ _ _ 1 1 w.heap.size 0 (λ _ j=>([.int .i64 t.kind,.string ⟨t.name.toArray⟩,.int .i64 t.sort,b]:List Value).getD j undef) rfl (λ _=>wa _) (λ _=>rfl) ?_ ?_ (by decide) (.inr rfl) ?_ ?_⟩
 .grind [List.mem_singleton,yj]
 .grind [List.mem_singleton,zq]
 .intro i e j x a c;cases i with
  |succ i=>cases a
  |zero=>
    cases a;let⟨u,f,_⟩:=(qhE h).get c;grind
 .intro i e j x a c;cases i with
  |succ i=>cases a
  |zero=>
    cases a;let⟨u,f,k⟩:=(qhE h).get c;rw[List.getD_eq_getElem?_getD,f];exact k.mono d.le
theorem qH0{B N:Nat}{f:List (T×Int)}{a:List Nat}{g cap:Nat}{cs:List Value}(h:RS Γ0 w0 rd Γ σ w)(j:Stk B N Γ σ w f a g cap cs){q:Nat}{x:T}{n:Int}(m:f[q]?=some (x,n)):
  ∃Γ' σ' c,cs[q*5+3]?=some c/\RS Γ0 w0 rd Γ' σ' w/\Stk B N Γ' σ' w (f.take q) (a.take q) g cap (cs.take (q*5))/\Rep Γ' (.sl 4 (x.kids.map (qe .term)) 1) c/\Ext Γ w Γ' w:=by
 let⟨A,k,z⟩:=j.at m;let⟨d,σ1,c,y,v,l,u,t,s,C⟩:=qFe h.i z;refine⟨d,σ1,c,t,⟨h.x.trans l,u,y.trans h.bx⟩,(j.shrink (xl (getElem?_lt m))).later l λ r o R p=>?_,s,l⟩;rw[v r λ e=>?_];exact p;subst e;let⟨i,b⟩:=vO.1 o;rw[List.getElem?_take]at b;split at b<;>try cases b
 have:=(List.getElem?_inj (getElem?_lt b) j.nd).1 (b.trans k.symm);omega
theorem qHI{B N:Nat}{A:List (T×Int)}{f:List Nat}{g cap:Nat}{cs:List Value}{z U:TypeId}(Y:qom P .term z U 56)(h:RS Γ0 w0 rd Γ σ w)(o:Stk B N Γ σ w A f g cap cs)(hB:w0.heap.size<=B){q:Nat}{t x:T}{n:Int}{I:Value}(E:A[q]?=some (t,n))(V:Rep Γ (.sl 4 (x.kids.map (qe .term)) 1) I)(l:zo (t.kids.length+1) 56=true)(e ty:TypeId):
  ∃p a,cs[q*5+3]?=some p/\f[q]?=some a/\(∃C D,p=.slice C t.kids.length D)/\
  ∃d w',(Builtin.append_ #[z,z] ty #[p,.slice (some ⟨w.heap.size,0,none⟩) 1 1]).run P (w.alloc (.cells #[.int .i64 x.kind,.string ⟨x.name.toArray⟩,.int .i64 x.sort,I] e))=.ok d w'/\(∃C D,d=.slice C (t.kids.length+1) D)/\
  ∃Γ' σ',Ext Γ w Γ' w'/\RS Γ0 w0 rd Γ' σ' (w'.setCell ⟨g,q*5+3,none⟩ d)/\Stk B N Γ' σ' (w'.setCell ⟨g,q*5+3,none⟩ d) (A.take q++[(.mk t.kind t.name t.sort (t.kids++[x]),n)]) (f.take (q+1)) g cap ((cs.set (q*5+3) d).take ((q+1)*5)):=by
 let⟨S,Q,c2,c3⟩:=qPc h.i V e;let⟨a,j,Nq⟩:=o.at E;let⟨R,p,e1,O,M,e4,L,K,f0,f1,f2,f3,f4⟩:=Nq;have v:R.c.length=t.kids.length:=by rw[L,wE]
 have r:=of_decide_eq_true l
 have y:yg (Ty.size .term) 56 σ (.rs a 0 t.kids.length R.ver false) [qe .term x]=some (.rs a 0 (t.kids.length+1) (R.ver+1) false,some {σ with rw:=σ.rw.set a {R with c:=R.c++[qe .term x],ver:=R.ver+1},wrr:=a::σ.wrr}):=by
  have m:R.k=Ty.size .term/\R.ver=R.ver/\t.kids.length=R.c.length/\(0:Nat)=0/\false=false/\R.fz<=R.c.length/\(t.kids.length+[qe .term x].length)*56<=2^47/\t.kids.length+[qe .term x].length<2^62:=
   ⟨O,rfl,v.symm,rfl,rfl,by rw[M];exact wg _,r.1,r.2⟩
  have G:qsV R (Ty.size .term) 0 t.kids.length R.ver false 56 [qe .term x]=some ({R with c:=R.c++[qe .term x],ver:=R.ver+1},t.kids.length+1):=if_pos m;have u:zx (qaO [qe .term x]) 0=false:=rfl;simp only[yg,u,e1,G]
 let⟨d,w',Γ',g1,g2,g3,J⟩:=qrk Y c2 (K.mono Q.le) c3 (by intro q' hq';rw[wD.1 hq'];exact yj .term x) (by intro q' hq';rw[wD.1 hq'];exact zq .term x) y ty;have b:=Q.trans g2;have F:=(o.priv.ext b (qcN o.own).2).1;have X:=(qcN o.own).1;refine⟨p,a,f3,j,(by cases K;exact⟨_,_,rfl⟩),d,w',g1,(by cases J;exact⟨_,_,rfl⟩),Γ',_,b,RS.set ⟨h.x.trans b,g3,h.bx⟩ F (by omega) _ _,o.kid b (getElem?_lt E) E j x (λ i H hi s R' Z=>?_) (R:={R with c:=R.c++[qe .term x],ver:=R.ver+1}) ?_ O M e4 (by show R.c++_=_;rw[L,wZ];rfl) J⟩
 .have W:=getElem?_lt s
  have n1:H≠a:=λ e=>by
   have:=(List.getElem?_inj W o.nd).1 (s.trans (e▸j.symm));omega
  show(σ.rw.set a _)[H]?=_;grind
 .show(σ.rw.set a _)[a]?=_;grind
theorem qDZ{vs:Array Value}{a:Nat}{f e c b:Value}(j:a+4<=vs.size)(off:Nat):((((vs.setIfInBounds a f).setIfInBounds (a+1) e).setIfInBounds (a+2) c).setIfInBounds (a+3) b)[off]?=if off<a then vs[off]? else if off<a+4 then([f,e,c,b]:List Value)[off-a]? else vs[off]?:=by
 simp only[Array.getElem?_setIfInBounds,xN];by_cases h:off<a
 .rw[if_pos h,if_neg (by omega),if_neg (by omega),if_neg (by omega),if_neg (by omega)]
 .rw[if_neg h];by_cases g:off<a+4
  .rw[if_pos g];obtain⟨d,rfl⟩:∃d,off=a+d:=⟨off-a,by omega⟩
   rw[show a+d-a=d by omega];have i:d<4:=by omega
   match d,i with
   |0,_=>rw[if_neg (by omega),if_neg (by omega),if_neg (by omega),if_pos (by omega),if_pos (by omega)];rfl
   |1,_=>rw[if_neg (by omega),if_neg (by omega),if_pos (by omega),if_pos (by omega)];rfl
   |2,_=>rw[if_neg (by omega),if_pos (by omega),if_pos (by omega)];rfl
   |3,_=>rw[if_pos (by omega),if_pos (by omega)];rfl
  .rw[if_neg g,if_neg (by omega),if_neg (by omega),if_neg (by omega),if_neg (by omega)]
theorem qQP{B N:Nat}{O:List (T×Int)}{s:List Nat}{g cap:Nat}{cs:List Value}(h:RS Γ0 w0 rd Γ σ w)(f:Stk B N Γ σ w O s g cap cs){q:Nat}{t x z:T}{ks:List T}{n:Int}{o:Value}(hq:O[q]?=some (t,n))(K:t.kids=ks++[z])(hx:Rep Γ (.sl 4 (x.kids.map (qe .term)) 1) o):
  ∃b m,cs[q*5+3]?=some (.slice (some ⟨b,0,none⟩) (ks.length+1) m)/\b≠g/\Jg Γ b/\(∀j,j<4->∃u,w.cell? ⟨b,ks.length*4+j,none⟩=some u)/\(∀j,w.frozen? ⟨b,j,none⟩=false)/\
  ∃Γ' σ',Ext Γ w Γ' ((((w.setCell ⟨b,ks.length*4,none⟩ (.int .i64 x.kind)).setCell ⟨b,ks.length*4+1,none⟩ (.string ⟨x.name.toArray⟩)).setCell ⟨b,ks.length*4+2,none⟩ (.int .i64 x.sort)).setCell ⟨b,ks.length*4+3,none⟩ o)/\
   RS Γ0 w0 rd Γ' σ' ((((w.setCell ⟨b,ks.length*4,none⟩ (.int .i64 x.kind)).setCell ⟨b,ks.length*4+1,none⟩ (.string ⟨x.name.toArray⟩)).setCell ⟨b,ks.length*4+2,none⟩ (.int .i64 x.sort)).setCell ⟨b,ks.length*4+3,none⟩ o)/\
   Stk B N Γ' σ' ((((w.setCell ⟨b,ks.length*4,none⟩ (.int .i64 x.kind)).setCell ⟨b,ks.length*4+1,none⟩ (.string ⟨x.name.toArray⟩)).setCell ⟨b,ks.length*4+2,none⟩ (.int .i64 x.sort)).setCell ⟨b,ks.length*4+3,none⟩ o) (O.set q (.mk t.kind t.name t.sort (ks++[x]),n)) s g cap cs:=by
 let⟨r,hr,R,ku,e1,J,e3,e4,e5,e6,f0,f1,f2,f3,f4⟩:=f.at hq;have H:=h.i.row r R e1;have D:R.c.length=ks.length+1:=by rw[e5,K];simp
 have V:t.kids.length=ks.length+1:=by rw[K];simp
 rw[V]at e6;have G:R.c[ks.length]?=some (qe .term z):=by rw[e5,K];simp
 have hz:=H.real G;have C:=H.off e4
 obtain⟨b,m,rfl,hb⟩:∃b m,ku=.slice (some ⟨b,0,none⟩) (ks.length+1) m/\b=Γ.cur r:=by
  cases e6 with
  |rs _ _ _ _ _ a m v Q hc hf hl=>
    let⟨I,h2⟩:=hl (H.ver (by rw[e3];exact wg _)).symm;obtain I|I:=I
    .omega
    .rw[C,kR,wG]at I;exact⟨_,m,by rw[I],rfl⟩
 subst hb;have v:r<Γ.nr:=by rw[h.i.nr];exact getElem?_lt e1
 have A:Jg Γ (Γ.cur r):=.inr ⟨r,v,hz,rfl⟩;have Y:Γ.cur r≠g:=λ e=>f.priv.own (e▸A);let⟨vs,e,fr,M,c2,c3,c4⟩:=H.blk hz;have X:fr=(0,0):=c4 (by omega);subst X;have F:=H.fit;rw[C,D,J,<-c2]at F;have s1:=heap_setCell_same w (Γ.cur r) (ks.length*4) vs e (.int .i64 x.kind) M;have s2:=heap_setCell_same _ (Γ.cur r) (ks.length*4+1) _ e (.string ⟨x.name.toArray⟩) s1;have s3:=heap_setCell_same _ (Γ.cur r) (ks.length*4+2) _ e (.int .i64 x.sort) s2;have s4:=heap_setCell_same _ (Γ.cur r) (ks.length*4+3) _ e o s3
 have l:∀k,k≠Γ.cur r->((((w.setCell ⟨Γ.cur r,ks.length*4,none⟩ (.int .i64 x.kind)).setCell ⟨Γ.cur r,ks.length*4+1,none⟩ (.string ⟨x.name.toArray⟩)).setCell ⟨Γ.cur r,ks.length*4+2,none⟩ (.int .i64 x.sort)).setCell ⟨Γ.cur r,ks.length*4+3,none⟩ o).heap[k]?=w.heap[k]?:=λ k L=>by
  rw[Below.heap_setCell _ _ _ _ L,Below.heap_setCell _ _ _ _ L,Below.heap_setCell _ _ _ _ L,Below.heap_setCell _ _ _ _ L]
 let⟨Γ',p,z2⟩:=qrC h.i e1 G (by rw[e3];exact wg _) e4 (e1:=qe .term x) ((yj .term x).trans J.symm) (zq .term x) (λ vs' e' ab Q=>by
   rw[M]at Q;cases Q;refine⟨s4,by simp,λ off ho=>?_⟩;rw[J]at ho;rw[qDZ (by omega)];split
   .rfl
   .rw[if_neg (by omega)])
  (λ j y W=>by
   have aa:j<4:=by have:=getElem?_lt W;rwa [yj .term x]at this
   let⟨u,hu,S⟩:=(qhE hx).get W;refine⟨u,?_,S,qpm (hx.one rfl) u (wb hu)⟩;rw[J,qDZ (by omega),if_neg (by omega),if_pos (by omega),show ks.length*4+j-ks.length*4=j by omega];exact hu) l rfl rfl rfl (by simp) (wa _) σ.wrr
 refine⟨Γ.cur r,m,f3,Y,A,λ j W=>⟨vs[ks.length*4+j]'(by omega),?_⟩,λ j=>frozen_of_row w _ j _ _ M,Γ',_,p,⟨h.x.trans p,z2,h.bx⟩,?_⟩
 .rw[QU M,Array.getElem?_eq_getElem]
 .let⟨p1,p2⟩:=f.priv.ext p (qcN f.own).2;refine⟨by rw[wI];exact f.len,f.nd,p1,by rw[wI];exact qlX f.own p2,λ i t' n' P E d=>?_⟩;rw[List.getElem?_set]at E;split at E
  .rename_i e;subst e;rw[if_pos (getElem?_lt hq)]at E;cases E;rw[hr]at d;cases d;refine⟨{R with c:=R.c.set ks.length (qe .term x)},_,List.getElem?_set_self (getElem?_lt e1),J,e3,e4,?_,?_,f0,f1,f2,f3,f4⟩
   .show R.c.set ks.length (qe .term x)=(ks++[x]).map (qe .term);rw[e5,K,wZ,wZ];simp
   .have:=e6.mono p.le;show Rep Γ' (.rs r 0 (ks++[x]).length R.ver false) _;rw[wd];exact this
  .rename_i e;refine(f.node i t' n' P E d).later p.le λ R' Z=>?_
   have U:P≠r:=λ e'=>by
    have:=(List.getElem?_inj (getElem?_lt d) f.nd).1 (d.trans (e'▸hr.symm));omega
   show(σ.rw.set r _)[P]?=_;rw[List.getElem?_set_ne (λ e=>U e.symm)];exact Z
end
end Go.AmZ
namespace Go.AmZ
open Go Go.RowKit Go.GxZ
theorem qoy{P:Program}{o:Oper}{a:Act}{w:World}{K:Act->World->Prop}{Q:Exit->Act->World->Prop}(s x:Operand)(t:TypeId)(c:o.op=Op.call {callee:=Callee.builtin Builtin.append,args := #[s,x],argTypes := #[t,t]}){v d e:Value}{w':World}(g:a.eval s=v)(f:a.eval x=d)
  (b:(Builtin.append_ #[t,t] o.type #[v,d]).run P w=.ok e w') (h:K (a.put o.dst e) w'):Oper.wp P o a w K Q:=by
 unfold Oper.wp;simp[execOp,c,resolve,invoke,builtin,g,f,b,Result.andThen];exact h
theorem qoe{P:Program}{ops:Array Oper}{o:Oper}{a:Act}{w:World}{K:Act->World->Prop}{Q:Exit->Act->World->Prop}{E:Prop}(h:o.guard=none)(s x:Operand)(t:TypeId)(c:o.op=Op.call {callee:=Callee.builtin Builtin.append,args := #[s,x],argTypes := #[t,t]}){v d e:Value}{w':World}(g:a.eval s=v)(f:a.eval x=d)
  (b:(Builtin.append_ #[t,t] o.type #[v,d]).run P w=.ok e w') (i:K (a.put o.dst e) w'):if Region.wanted o (yielded ops a.tmps)=true then Oper.wp P o a w K Q else E:=by
 rw[if_pos (by simp[Region.wanted,h])];exact qoy s x t c g f b i
theorem qz7{P:Program}{ops:Array Oper}{b:List Oper}{o:Oper}{a:Act}{w:World}{Q:Exit->Act->World->Prop}(s x:Operand)(t:TypeId)(j:o.guard=none)(d:o.op=Op.call {callee:=Callee.builtin Builtin.append,args := #[s,x],argTypes := #[t,t]}){v e f:Value}{w':World}(i:a.eval s=v)(g:a.eval x=e)
  (c:(Builtin.append_ #[t,t] o.type #[v,e]).run P w=.ok f w') (k:wpList P ops Q b (a.put o.dst f) w'):wpList P ops Q (o::b) a w:=by
 have h:Region.wanted o (yielded ops a.tmps)=true:=by simp[Region.wanted,j]
 unfold wpList;rw[if_pos h];exact .inl (qoy s x t d i g c k)
abbrev qkZ:=(Val RD×Unit)×((Int×List UInt8×Int×List T×Int×Unit)×Unit)
def qeP(F:Val RD->Option qkZ)(rd:Val RD):Option (Val RD×(Int×List UInt8×Int×Int)):=match F rd with
 |some (r,v)=>match v.1.2.2.2.1 with
   |[]=>some (r.1,v.1.1,v.1.2.1,v.1.2.2.1,v.1.2.2.2.2.1)
   |_::_=>none
 |none=>none
def qnj(F:Val RD->Option qkZ)(c:List (T×Int)->Val RD->Option ((Val RD×Unit)×(T×Unit)))(b:List (T×Int))(rd:Val RD):Option ((Val RD×Unit)×(T×Unit)):=
 cond rd.2.2 (some ((rd,()),(T.mk 0 [] 0 [],()))) (qb b[b.length-1]? λ a=>cond (ilt 0 a.2)
  (cond (zo (b.length+1) 64) (qb (qeP F rd) λ h=>c (b.set (b.length-1) (a.1,iw .i64 (zX a.2 1))++[(T.mk h.2.1 h.2.2.1 h.2.2.2.1 [],h.2.2.2.2)]) h.1) none)
  (cond (Nat.beq b.length 1) (some ((rd,()),(a.1,()))) (qb b[b.length-2]? λ p=>cond (zo (p.1.kids.length+1) 56) (c (b.take (b.length-2)++[(T.mk p.1.kind p.1.name p.1.sort (p.1.kids++[a.1]),p.2)]) rd) none)))
def qkC(F:Val RD->Option qkZ):Nat->List (T×Int)->Val RD->Option ((Val RD×Unit)×(T×Unit)):=qPs (λ _ _=>none) (qnj F)
def qpz(F:Val RD->Option qkZ)(k:Nat)(rd:Val RD):Option ((Val RD×Unit)×(T×Unit)):=qb (qeP F rd) λ h=>qkC F k [(T.mk h.2.1 h.2.2.1 h.2.2.2.1 [],h.2.2.2.2)] h.1
theorem qt6{F:Val RD->Option qkZ}{rd f:Val RD}{nk sk lf:Int}{nm:List UInt8}(h:qeP F rd=some (f,nk,nm,sk,lf)):F rd=some ((f,()),((nk,nm,sk,[],lf,()),())):=by
 unfold qeP at h;split at h<;>try cases h
 rename_i r v i;split at h<;>cases h;rename_i g;let⟨⟨a,b,c,d,e,_⟩,_⟩:=v;let⟨r,_⟩:=r;have g:d=[]:=g;subst g;exact i
theorem qJH{F:Val RD->Option qkZ}{g:List (T×Int)->Val RD->Option ((Val RD×Unit)×(T×Unit))}{c:List (T×Int)}{rd:Val RD}{r:(Val RD×Unit)×(T×Unit)}(h:qnj F g c rd=some r):
  (rd.2.2=true/\r=((rd,()),(T.mk 0 [] 0 [],())))\/rd.2.2=false/\∃p b lt,c.length=p+1/\c[p]?=some (b,lt)/\
   ((0<lt/\zo (p+2) 64=true/\∃d nk nm sk lf,F rd=some ((d,()),((nk,nm,sk,[],lf,()),()))/\g (c.set p (b,iw .i64 (zX lt 1))++[(T.mk nk nm sk [],lf)]) d=some r)\/
    ¬ 0<lt/\((p=0/\r=((rd,()),(b,())))\/∃q a n,p=q+1/\c[q]?=some (a,n)/\zo (a.kids.length+1) 56=true/\g (c.take q++[(T.mk a.kind a.name a.sort (a.kids++[b]),n)]) rd=some r)):=by
 unfold qnj at h;cases m:rd.2.2 with
 |true=>rw[m]at h;exact .inl ⟨rfl,(kz h).symm⟩
 |false=>
   rw[m]at h;refine .inr ⟨rfl,?_⟩;cases e:c[c.length-1]? with
   |none=>rw[e]at h;cases h
   |some x=>
     let⟨b,lt⟩:=x;have o:=getElem?_lt e;obtain⟨p,s⟩:∃p,c.length=p+1:=⟨c.length-1,by omega⟩
     rw[s]at h e;simp only[vx]at h e;rw[e]at h;refine⟨p,b,lt,s,e,?_⟩;have h:cond (ilt 0 lt) _ _=some r:=h;cases i:ilt 0 lt with
     |true=>
       rw[i]at h;have h:cond (zo (p+1+1) 64) (qb (qeP F rd) _) none=some r:=h;cases f:zo (p+1+1) 64 with
       |false=>rw[f]at h;cases h
       |true=>
         rw[f]at h;refine .inl ⟨of_decide_eq_true i,rfl,?_⟩;have h:qb (qeP F rd) _=some r:=h;cases l:qeP F rd with
         |none=>rw[l]at h;cases h
         |some y=>
           let⟨d,nk,nm,sk,lf⟩:=y;rw[l]at h;exact⟨d,nk,nm,sk,lf,qt6 l,h⟩
     |false=>
       rw[i]at h;refine .inr ⟨of_decide_eq_false i,?_⟩;have h:cond (Nat.beq (p+1) 1) (some ((rd,()),(b,()))) _=some r:=h;cases j:Nat.beq (p+1) 1 with
       |true=>
         rw[j]at h;exact .inl ⟨by have:=wm j;omega,(kz h).symm⟩
       |false=>
         rw[j]at h;obtain⟨q,rfl⟩:∃q,p=q+1:=⟨p-1,by cases p with|zero=>cases j|succ q=>rfl⟩
         have h:qb c[q+1+1-2]? _=some r:=h;rw[show q+1+1-2=q by omega]at h;cases k:c[q]? with
         |none=>rw[k]at h;cases h
         |some y=>
           let⟨a,n⟩:=y;rw[k]at h;have h:cond (zo (a.kids.length+1) 56) (g (c.take (q+1+1-2)++_) rd) none=some r:=h;rw[show q+1+1-2=q by omega]at h;cases f:zo (a.kids.length+1) 56 with
           |false=>rw[f]at h;cases h
           |true=>rw[f]at h;exact .inr ⟨q,a,n,rfl,k,f,h⟩
theorem qAw{Γ Γ':Gh}(q:∀b o u,Γ.mem b o=some u->Γ'.mem b o=some u){x:AV}{u:Value}(h:Rep Γ x u):qv x=true->Rep Γ' x u:=by
 induction h with
 |v x h=>exact λ _=>.v x h
 |sl k z f a n cap b o us p t s r l y w g A m=>
   exact λ _=>.sl k z f a n cap b o us p t s r l y w (λ i e j x d c=>q _ _ _ (g i e j x d c)) (λ i e j x d c=>m i e j x d c (l e (wb d) x (wb c)))
 |_=>intro h;cases h
section
variable {P:Program}{Γ0 Γ:Gh}{σ0 σ:St}{w0 w:World}{rd:Val RD}
theorem qKO(G:Inv Γ0 σ0 w0)(p:σ0.bx.length=1)(c:σ0.rw=[])(h:RS Γ0 w0 rd Γ σ w){t:T}{us:List Value}(s:RepL Γ (qe .term t) us)(F:∀u∈us,u.oneCell'=true):
  ∃v Γ',(Ending.returned (.agg us.toArray):Ending)=.returned v/\Ext Γ0 w0 Γ' w/\Inv Γ' (turn σ0 (some ⟨[qe RD rd],[],List.range σ0.bx.length,List.range σ0.rw.length⟩)) w/\Rep Γ' (yR .term t) v/\qO {σ0 with wr:=[],wrr:=[]} (turn {σ0 with wr:=[],wrr:=[]} (some ⟨[qe RD rd],[],List.range σ0.bx.length,List.range σ0.rw.length⟩)):=by
 let⟨q,g,C,r⟩:= σ0;have c:g=[]:=c;subst c;obtain⟨y,rfl⟩:∃y,q=[y]:=xV.1 p
 let⟨m,B,H,A,z⟩:=qrh G h.x h.i (by rw[h.bx];exact wa _) [qe RD rd] [] rfl (by simp) kZ [] [] (λ i cs d=>by
  cases i with
  |succ i=>cases d
  |zero=>
    cases d;refine⟨qe RD rd,by rw[h.bx];rfl,(λ h=>nomatch (show true=false from h)),λ m n _ us f=>⟨f.len,λ j x u e k=>qAw (Γ:=Γ) (Γ':=jW Γ m 1 [] 0 []) (λ b o u l=>n.le.mem b o u l) (f.rep j x u e k) (zq RD rd x (wb e))⟩⟩) (λ a so R h=>by cases h) (λ a b j R R' h=>by cases h) [0] []
 refine⟨_,_,rfl,A,z,.agg _ us s.len F λ i x u e f=>qAw (Γ:=Γ) (Γ':=jW Γ m 1 [] 0 []) (λ b o u n=>B.le.mem b o u n) (s.rep i x u e f) (zq .term t x (wb e)),wa _,wa _,λ i d E=>?_,λ i d _=>absurd d (wN _),λ i h=>(by cases h),λ i h=>(by cases h)⟩;have:i=0:=by have:i<1:=d;omega
 exact absurd (by rw[this];exact wD.2 rfl) E
theorem qNu{B N:Nat}{m:List (T×Int)}{c:List Nat}{g cap:Nat}{cs:List Value}{q:TypeId}{i:TypeInfo}{z:Value}(J:P.underlying q=some (.slice N))(M:P.info? N=some i)(I:i.zero=some z)(x:i.size=5)(F:i.bytes=64)(v:z.cells.size=5)
  (h:RS Γ0 w0 rd Γ σ w) (s:Stk B N Γ σ w m c g cap cs) (Y:w0.heap.size<=B) {nk sk lf:Int}{nm:List UInt8}{n:Value}{r:Nat} (U:σ.rw[r]?=some ⟨4,[],0,0,false⟩) (o:Rep Γ (.rs r 0 0 0 false) n) (K:r ∉ c) (d:zo (m.length+1) 64=true) (ty:TypeId):
  ∃t w',(Builtin.append_ #[q,q] ty #[.slice (some ⟨g,0,none⟩) m.length cap,.slice (some ⟨w.heap.size,0,none⟩) 1 1]).run P (w.alloc (.cells #[.int .i64 nk,.string ⟨nm.toArray⟩,.int .i64 sk,n,.int .i64 lf] N))=.ok t w'/\
  ∃l a,t=.slice (some ⟨l,0,none⟩) ((m.length+1:Nat)) a/\RS Γ0 w0 rd Γ σ w'/\Stk B N Γ σ w' (m++[(.mk nk nm sk [],lf)]) (c++[r]) l a (cs++[.int .i64 nk,.string ⟨nm.toArray⟩,.int .i64 sk,n,.int .i64 lf])/\
   w.heap.size<=w'.heap.size/\(∀b,b<w.heap.size->b≠g->w'.heap[b]?=w.heap[b]?)/\(l=g\/w.heap.size<=l):=by
 have S:=s.own.alloc (.cells #[.int .i64 nk,.string ⟨nm.toArray⟩,.int .i64 sk,n,.int .i64 lf] N);have A:=of_decide_eq_true d;have V:=qcN s.own
 let⟨t,w',e1,X,p,H⟩:=qmt (P:=P) (w.alloc (.cells #[.int .i64 nk,.string ⟨nm.toArray⟩,.int .i64 sk,n,.int .i64 lf] N)) B q ty N i z 5 64 J M I x F v (by decide) _ m.length cs S ⟨w.heap.size,0,none⟩ 1 1 [.int .i64 nk,.string ⟨nm.toArray⟩,.int .i64 sk,n,.int .i64 lf] rfl
  (λ j u L=>by rw[qDK,World.cell?_alloc_mark];simpa using L) (λ u G=>by
   simp only[wv,xP,or_false]at G;obtain rfl|rfl|rfl|rfl|rfl:=G<;>first|rfl|exact o.one rfl) (by unfold maxLen;omega) (by have:=A.1;omega) (by simp;omega)
 have E:=GxZ.run_drawn _ e1;have f:w.grownBy w' (some g):=⟨p.os,p.tape,p.output,by have:=p.size;simp at this;omega,λ k D C=>(p.block k (by simp;omega) C).trans (Below.heap_alloc _ _ _ D)⟩
 have W:=RS.grown h f (λ b e=>by cases e;exact⟨s.priv,by omega⟩) E;obtain⟨l,a,rfl,y⟩:=Stk.push (Γ:=Γ) (σ:=σ) s (r:=r) (R:=⟨4,[],0,0,false⟩) U rfl rfl rfl rfl o K X (H.imp id λ O k D=>qe9.new h.i (by have:=O k D;simp at this;omega));refine⟨_,w',e1,l,a,rfl,W,y,f.size,λ b Q C=>f.block b Q (λ e=>C (by cases e;rfl)),?_⟩;obtain e|e:=H
 .cases e;exact .inl rfl
 .have:=e l rfl;simp at this;exact .inr (by omega)
theorem qQW{B N:Nat}(h:RS Γ0 w0 rd Γ σ w)(f:B<=w.heap.size){nk sk lf:Int}{nm:List UInt8}{a:Value}{r:Nat}(e:σ.rw[r]?=some ⟨4,[],0,0,false⟩)(c:Rep Γ (.rs r 0 0 0 false) a):
  RS Γ0 w0 rd Γ σ (w.alloc (.cells #[.int .i64 nk,.string ⟨nm.toArray⟩,.int .i64 sk,a,.int .i64 lf] N))/\Stk B N Γ σ (w.alloc (.cells #[.int .i64 nk,.string ⟨nm.toArray⟩,.int .i64 sk,a,.int .i64 lf] N)) [(.mk nk nm sk [],lf)] [r] w.heap.size 1 [.int .i64 nk,.string ⟨nm.toArray⟩,.int .i64 sk,a,.int .i64 lf]:=by
 refine⟨h.alloc _,rfl,by simp,qe9.new h.i (wa _),World.ownsRow_lit w #[.int .i64 nk,.string ⟨nm.toArray⟩,.int .i64 sk,a,.int .i64 lf] 1 f (by decide) rfl,λ i t n g d b=>?_⟩;cases i with
 |succ i=>cases d
 |zero=>
   cases d;cases b;exact⟨_,a,e,rfl,rfl,rfl,rfl,c,rfl,rfl,rfl,rfl,rfl⟩
theorem Stk.id_lt{B N:Nat}{b:List (T×Int)}{a:List Nat}{g cap:Nat}{cs:List Value}(c:Stk B N Γ σ w b a g cap cs):σ.rw.length ∉ a:=λ h=>by
 let⟨i,d⟩:=vO.1 h;have e:i<b.length:=by rw[<-c.len];exact getElem?_lt d
 let⟨R,_,f,_⟩:=c.node i _ _ _ (List.getElem?_eq_getElem e) d;exact absurd (getElem?_lt f) (wau _)
def qc6(Γ:Gh)(w:World)(b:Nat)(e:TypeId):Prop:=qe9 Γ b/\b<w.heap.size/\w.heap[b]?=some (.cells #[.int .i64 0,.string ⟨#[]⟩,.int .i64 0,.slice none 0 0] e (0,0))
theorem qc6.cells{b:Nat}{e:TypeId}(h:qc6 Γ w b e):w.cell? ⟨b,0,none⟩=some (.int .i64 0)/\w.cell? ⟨b,1,none⟩=some (.string ⟨#[]⟩)/\w.cell? ⟨b,2,none⟩=some (.int .i64 0)/\w.cell? ⟨b,3,none⟩=some (.slice none 0 0)/\∀i,w.frozen? ⟨b,i,none⟩=false:=by
 let⟨_,_,h⟩:=h;have a:=QU h;exact⟨a 0,a 1,a 2,a 3,λ i=>frozen_of_row w b i _ _ h⟩
theorem qc6.ext{Γ':Gh}{w':World}{b:Nat}{e:TypeId}(h:qc6 Γ w b e)(d:Ext Γ w Γ' w'):qc6 Γ' w' b e:=
 let⟨a,c⟩:=h.1.ext d h.2.1;⟨a,wA h.2.1 d.size,c.trans h.2.2⟩
theorem qc6.same{w':World}{b:Nat}{e:TypeId}(h:qc6 Γ w b e)(a:w.heap.size<=w'.heap.size)(c:w'.heap[b]?=w.heap[b]?):qc6 Γ w' b e:=⟨h.1,wA h.2.1 a,c.trans h.2.2⟩
theorem Stk.drew{B N:Nat}{b:List (T×Int)}{a:List Nat}{g cap:Nat}{cs:List Value}(h:Stk B N Γ σ w b a g cap cs):Stk B N Γ σ w.drew b a g cap cs:=⟨h.len,h.nd,h.priv,qlX h.own rfl,h.node⟩
theorem qc6.drew{b:Nat}{e:TypeId}(h:qc6 Γ w b e):qc6 Γ w.drew b e:=h
theorem RS.drew'(h:RS Γ0 w0 rd Γ σ w):RS Γ0 w0 rd Γ σ w.drew:=h.drew
end
end Go.AmZ
namespace Go.AmZ
open Go Go.GxZ
set_option linter.unusedVariables false
set_option maxRecDepth 100000
noncomputable section
class NF (α:Type) where z:α
instance {α:Type}:NF (Option α):=⟨none⟩
instance {α a:Type}[NF a]:NF (α->a):=⟨λ _=>NF.z⟩
instance {α a:Type}[NF α][NF a]:NF (α×a):=⟨(NF.z,NF.z)⟩
def qA{α:Type}[NF α]:(Nat->α->α)->Nat->α:=qPF NF.z
def qF{α:Type}[NF α](s:Nat->α):Nat->α:=qPF NF.z λ m _=>s m
def qC{α:Type}[NF α]:(α->α)->Nat->α:=qPs NF.z
abbrev Z1:=Option (List (Y8×(Int×Int)))
abbrev Z2:=Option Bool
abbrev Z3:=Option (((Y8×(Int×Bool))×Unit)×(Int×Unit))
abbrev Z4:=Y8×(Int×Bool)
abbrev Z5:=Option (((Y8×(Int×Bool))×Unit)×(Y8×Unit))
abbrev Z6:=List UInt8
abbrev Z7:=Int->Int->Int->Z6->Int->Bool->Z5
abbrev Z8:=Option (((Y8×(Int×Bool))×Unit)×((Int×Y8×Int×(List T)×Int×Unit)×Unit))
abbrev Z10:=Z6->Int->Int->Z2
abbrev Z11:=Y8->Z2
abbrev Z12:=Option ((Int×Int×Unit)×(Int×Unit))
abbrev Z13:=T->Int->Int->Int->Z12
abbrev Z14:=List T
abbrev Z15:=Int->Z14->Int->Int->Int->Int->Z12
abbrev Z16:=Option Int
abbrev Z17:=T->Z16
abbrev Z18:=Option (Y8×(Int×(Int×Int)))
abbrev Z19:=List (Y8×(Int×(Int×Int)))
abbrev Z20:=Z6->Z19->Int->Int->Z6->Int->Int->Int->Z18
abbrev Z21:=Z14->Int->Int->Int->Z6->Int->Z14->Z16
abbrev Z22:=Z14->Int->Int->Z16
abbrev Z23:=Int->Z14->Int->Int->Z16
abbrev Z24:=T->T->Z16
abbrev Z25:=Int->Int->Int->Z6->Int->Z14->Int->Z6->Int->Z14->Z16
abbrev Z26:=T->T->Z2
abbrev Z28:=Option T
abbrev Z29:=T->Z28
abbrev Z30:=Option (TL)
abbrev Z31:=(List (TL))->Int->(List (TL))->Int->Int->Z30
abbrev Z32:=(List (TL))->Int->Int->Z14->Z30
abbrev Z33:=Z14->Z14->Z14->Z30
abbrev Z34:=T->Z30
abbrev Z35:=Z14->Z14->Int->Int->Z30
abbrev Z36:=Z14->Int->Int->Int->Z6->Int->Int->Z6->Int->Z14->Z14->Z28
abbrev Z37:=Option (T×Int)
abbrev Z38:=(List Int)->Int->Int->Int->Z6->Int->Z14->Int->Z6->Int->Int->Z6->Int->Z14->Z14->Z37
abbrev Z39:=TL->Z30
abbrev Z40:=Z14->Int->Int->Z14->Z30
abbrev Z41:=Z14->Z14->Int->Int->Int->Z6->Int->Z14->Z37
abbrev Z42:=T->Z2
abbrev Z43:=Int->Int->Int->Z6->Int->Int->Z6->Int->Z14->Z14->Z28
abbrev Z44:=Option (Int×Bool)
abbrev Z45:=List (T×Int)
abbrev Z46:=Z45->Int->Int->Int->Int->Z6->Int->Z14->Z44
abbrev Z47:=Option ((Unit)×((List (T×Int))×Unit))
abbrev Z48:=Option ((Unit)×((List (T×Int))×Bool×Unit))
abbrev Z49:=Z45->T->Int->Z48
abbrev Z50:=Int->Z14->Int->Int->Z45->Z48
abbrev Z51:=Option ((List (T×Int))×Int)
abbrev Z53:=Z45->Z45->Int->Int->Z16
abbrev Z54:=Z45->Z16
abbrev Z56:=Z45->Int->Int->Int->Z6->Int->Z14->Z14->Z14->Z37
abbrev Z57:=Z45->Int->Int->Int->Int->Int->Z6->Int->Int->Z6->Int->Z14->Int->Z14->Z14->Z14->Z37
abbrev Z58:=Z45->Z37
abbrev Z59:=Z45->Int->Int->Z45->Z47
abbrev Z60:=Z45->Int->Int->Z16
abbrev Z61:=Z45->Int->Int->Z45->Z51
abbrev Z62:=Z45->Z45->Z51
abbrev Z64:=T->Z37
abbrev Z65:=Z14->Int->Int->Int->Z6->Int->Z14->Int->Z6->Int->Int->Z6->Int->Z14->Z14->Z37
abbrev Z66:=Z14->Int->Int->Z2
abbrev Z67:=Option (T×(Int×Int))
abbrev Z69:=Option ((Int×(List T)×Unit)×(Unit))
abbrev Z70:=T->Int->Z14->Z69
abbrev Z71:=Z14->Int->Int->Int->Z14->Z69
abbrev Z72:=Option ((Unit)×((List T)×Unit))
abbrev Z73:=Int->Int->Z14->Z72
abbrev Z74:=Option ((T×Unit)×(Bool×Unit))
abbrev Z75:=Option ((T×Unit)×(Int×Unit))
abbrev Z76:=(List (Y8×(Int×Int)))->Int->Int->Int->Z6->Int->Z14->Z75
abbrev Z77:=Option ((Unit)×((List Int)×Unit))
abbrev Z78:=(List Int)->T->Z77
abbrev Z79:=Z14->Int->Int->(List Int)->Z77
abbrev Z80:=List (T×T)
abbrev Z81:=Z80->T->Z28
abbrev Z82:=Z80->Z80->Int->Int->Int->Z6->Int->Z14->Int->Z6->Int->Z14->Z28
abbrev Z83:=Z80->Z14->Int->Int->Int->Z6->Int->Int->Z6->Int->Z14->Z14->Z28
abbrev Z84:=Option Y8
abbrev Z86:=Option (((List (Y8×Y8))×Unit)×(T×Unit))
abbrev Z87:=T->Y8->(List (Y8×Y8))->Z86
abbrev Z88:=Z6->Z14->Int->Int->(List (Y8×Y8))->Int->Z6->Int->Int->Z6->Int->Z14->Z14->Z86
abbrev Z89:=List ((Y8×Int)×T)
abbrev Z90:=Option (((List ((Y8×Int)×T))×Unit)×(T×Unit))
abbrev Z91:=Z89->T->Z90
abbrev Z92:=Z14->Int->Int->Z89->Int->Z6->Int->Z14->Int->Z6->Int->Z14->Z14->Z90
abbrev Z93:=Option ((((List (T×T))×(List (T×T))×Unit)×Unit)×(Int×Unit))
abbrev Z94:=Int->Int->Z80->Int->Z6->Int->Z14->Int->Z6->Int->Z14->Bool->Z89->Z80->Z80->Z93
abbrev Z95:=(List (T×T))×(List (T×T))×Unit
abbrev Z96:=Z95->T->T->Z93
abbrev Z97:=TL->T->Z74
abbrev Z98:=T->T->Z74
abbrev Z99:=TL->T->Z75
abbrev qSq:=Z14->Int->Int->Int->Z6->Int->Z14->Z75
abbrev qS5:=Int->Int->Z80->Int->Z6->Int->Z14->Int->Z6->Int->Z14->Z80->Z80->Z93
abbrev qTA:=Option ((Unit)×((List (T×T))×Unit))
abbrev qcO:=Option ((List (T×T))×Int)
abbrev qTd:=Z80->Z80->qcO
abbrev qSf:=T->T->qcO
abbrev qyT:=Option (Int×(Int×(T×Int)))
abbrev qNg:=Z14->Int->Int->Int->Z6->Int->Z14->qyT
abbrev qOC:=Z14->Int->Int->Int->Int->Int->Z6->Int->Int->Z6->Int->Z14->Z14->qyT
abbrev qJO:=T->Int->Z16
abbrev qyV:=Int->Int->Int->Z6->Int->Z14->Z16
abbrev qJN:=Option (((List ((Y8×Int)×T))×Unit)×(Bool×Unit))
abbrev qJt:=T->T->Z89->qJN
abbrev qRk:=Int->Int->Z89->Int->Z6->Int->Z14->Int->Z6->Int->Z14->qJN
abbrev qST:=Z14->Int->Int->Z89->Z80->qcO
abbrev qSA:=Z6->Int->Z2
abbrev qsf:=Option (T×(Int×Bool))
abbrev qJu:=Z6->Int->Int->Int->Int->Z6->Int->Int->Z6->Int->Z14->Z14->qsf
abbrev qGg:=Y8->Int->qsf
abbrev qTu:=Option (List (Y8×(Int×(Int×Int))))
abbrev qsS:=Option (Int×(Int×Bool))
abbrev qSi:=Z6->Int->Z6->Z19->Int->qsS
abbrev qJD:=Int->Int->Z6->Int->Z14->Z16
abbrev qRm:=Z6->Z19->Int->Z16
abbrev qSe:=Z19->Int->Int->Z6->Int->Z14->Z2
abbrev qRC:=Int->Int->Z6->Int->Z14->Z2
abbrev qRl:=Int->Int->Z6->Int->Z14->Int->Z6->Int->Z14->Z16
abbrev qSH:=Int->Int->Z6->Int->Z14->Z14->Z30
abbrev qus:=Option (T×Bool)
abbrev qR3:=Z14->Int->Int->Z6->Int->Z14->Z16
abbrev qRO:=Z14->Bool->Int->Int->Z6->Int->Z14->Z14->Z30
abbrev qRG:=Z14->Int->Int->Z6->Int->Z14->Z2
abbrev qSl:=Z14->Int->Int->Z6->Int->Z14->Z14->Z30
abbrev qIO:=Z14->Z14->Int->Z30
abbrev qTe:=Z14->Int->Int->Z6->Int->Z14->Z30
abbrev qRx:=Z14->Z14->Int->Int->Z6->Int->Z14->Z37
abbrev qRE:=Int->Int->Int->Z6->Int->Z14->Z2
abbrev qRu:=Int->Bool->Int->Int->Z6->Int->Z14->Z45->Z45->Z47
abbrev qDH:=Z45->T->Int->Z47
abbrev qSc:=Int->Int->Int->Z6->Int->Z14->Z45->Z47
abbrev qKp:=Z45->Int->Z16
abbrev qn9:=Z45->Int->Z14->Z30
abbrev qn6:=Z45->Int->Int->Z14->Z30
abbrev qS6:=Z45->Int->Z45->Z51
abbrev qRf:=Int->Int->Z6->Int->Z14->Int->Z6->Int->Z14->Z14->Z37
abbrev qJ8:=Z14->Int->Z2
abbrev qS8:=Int->Z14->Int->Z14->Z30
abbrev qJh:=Option ((Unit)×((List (T×T))×Bool×Unit))
abbrev qKf:=T->T->Z80->qJh
abbrev qRT:=Bool->Int->Int->Z6->Int->Z14->Int->Z6->Int->Z14->Z80->qJh
abbrev qFC:=Int->Int->Z6->Int->Z14->Z80->qcO
abbrev qDy:=Int->Int->Int->Z6->Int->Z14->Z80->qcO
abbrev qDj:=Z14->Int->Z80->Z80->qcO
abbrev qFY:=Z14->Int->Int->Z80->Z80->qcO
abbrev qSR:=Z80->Z80->Int->Z2
def qd9(m:Nat):Z1:=
 some [([112,97,105,114],(2,2)),([101,110,99],(2,2)),([97,101,110,99],(2,2)),([112,107],(1,1)),([115,105,103,110],(2,2)),([104,97,115,104],(1,1)),([120,111,114],(2,8)),([122,101,114,111],(0,0)),([101,120,112],(2,2)),([109,117,108],(2,8)),([105,110,118],(1,1)),([111,110,101],(0,0)),([115,107],(1,1)),([115,104,107],(2,2)),([110,101,119],(1,8))]
def yv:=qF qd9
def qal(m:Nat)(a:Y8×(Int×Int)):Z2:=
 some (qg (ieq a.2.1 a.2.2))
def yG:=qF qal
def qbI(m:Nat)(a:Y8×(Int×Bool))(c g:Int):Z3:=
 let b:Z3:=(some (((a.1,(a.2.1,true)),()),(c,())));cond a.2.2 b (cond (ile a.1.length a.2.1) b (qb (qd a.1 a.2.1) λ f=>
 cond (ilt (iw .i64 ((UInt8.toNat f:Nat):Int)) c) b (qb (qd a.1 a.2.1) λ e=>
 cond (ilt g (iw .i64 ((UInt8.toNat e:Nat):Int))) b (qb (qd a.1 (iw .i64 (zX (iw .i64 (qf a.2.1 1)) 1))) λ d=>
 some (((a.1,(iw .i64 (qf a.2.1 1),a.2.2)),()),(iw .i64 ((UInt8.toNat d:Nat):Int),()))))))
def zh:=qF qbI
def JD(m:Nat)(c:Z7)(b:Y8×(Int×Bool)):Z5:=
 qb (zh m (b.1,(b.2.1,b.2.2)) 1 24) λ a=>c a.1.1.2.1 a.2.1 0 a.1.1.1 a.1.1.2.1 a.1.1.2.2
def Qn(m:Nat)(l:Z7)(g h f:Int)(c:Y8)(a:Int)(e:Bool):Z5:=
 cond (ilt f h) (let d:Z5:=(some (((c,(a,true)),()),([],())));cond e d (cond (ile c.length a) d (qb (qd c a) λ b=>let j2:Z5:=
 (l g h (iw .i64 (qf f 1)) c (iw .i64 (qf a 1)) e);let k:Z5:=(let j:Z5:=(cond (ieq f 0) d (let i:Z5:=(cond (qg (ieq ((UInt8.toNat b:Nat):Int) 95))
 (cond (qg (ieq ((UInt8.toNat b:Nat):Int) 35)) d j2) j2);cond (ilt ((UInt8.toNat b:Nat):Int) 48) i (cond (ilt 57 ((UInt8.toNat b:Nat):Int)) i j2)));cond (ile 65 ((UInt8.toNat b:Nat):Int))
 (cond (qg (ile ((UInt8.toNat b:Nat):Int) 90)) j j2) j);cond (ile 97 ((UInt8.toNat b:Nat):Int)) (cond (ile ((UInt8.toNat b:Nat):Int) 122) j2 k) k))) (cond (inb a c.length)
 (cond (inb g (Int.toNat a)) (some (((c,(a,e)),()),(qao c g a,()))) none) none)
def yl(m:Nat):=qC (Qn m)
def Jl:Nat->(Z4->Z5):=qA λ m _=>JD m (yl m m)
def Qk(m:Nat)(a:Y8×(Int×Bool)):Z8:=
 let g:Z8:=(qb (yv m) λ j=>qb (yv m) λ i=>qb (zh m (a.1,(a.2.1,a.2.2)) 16 (iw .i64 (zX (iw .i64 (qf 16 i.length)) 1))) λ c=>
 qb (qd j (iw .i64 (zX c.2.1 16))) λ b=>qb (yG m (b.1,(b.2.1,b.2.2))) λ h=>
 cond h (qb (zh m (c.1.1.1,(c.1.1.2.1,c.1.1.2.2)) b.2.1 b.2.2) λ d=>some (((d.1.1.1,(d.1.1.2.1,d.1.1.2.2)),()),((3,b.1,0,[],d.2.1,()),())))
 (some (((c.1.1.1,(c.1.1.2.1,c.1.1.2.2)),()),((3,b.1,0,[],b.2.1,()),()))));cond (ilt a.2.1 a.1.length) (qb (qd a.1 a.2.1) λ k=>cond (ile ((UInt8.toNat k:Nat):Int) 5)
 (qb (zh m (a.1,(a.2.1,a.2.2)) 0 5) λ f=>qb (Jl m (f.1.1.1,(f.1.1.2.1,f.1.1.2.2))) λ e=>
 some (((e.1.1.1,(e.1.1.2.1,e.1.1.2.2)),()),((2,e.2.1,f.2.1,[],0,()),()))) g) g
def qy:=qF Qk
def jA:Nat->Val RD->Option ((Val RD×Unit)×(T×Unit)):=qA λ m _=>qpz (qy m) m
def qlT(m:Nat)(a:Int):Z2:=
 let d:Z2:=(let c:Z2:=(let b:Z2:=(cond (ieq a 95) (some true) (some (ieq a 35)));cond (ile 48 a) (cond (ile a 57) (some true) b) b);cond (ile 65 a) (cond (ile a 90) (some true) c) c);
 cond (ile 97 a) (cond (ile a 122) (some true) d) d
def qjH:=qF qlT
def qft(m:Nat)(i:Z10)(a:Y8):Z2:=
 cond (qu a []) (some false) (cond (ilt 24 a.length) (some false) (qb (qd a 0) λ h=>qb (qjH m ((UInt8.toNat h:Nat):Int)) λ g=>cond (qg g) (some false) (qb (qd a 0) λ f=>
 let b:Z2:=(qb (qd a 0) λ d=>cond (ieq ((UInt8.toNat d:Nat):Int) 95) (some false) (qb (qd a 0) λ c=>cond (ieq ((UInt8.toNat c:Nat):Int) 35) (some false) (i a a.length 0)));
 cond (ile 48 ((UInt8.toNat f:Nat):Int)) (qb (qd a 0) λ e=>cond (ile ((UInt8.toNat e:Nat):Int) 57) (some false) b) b)))
def qfS(m:Nat)(f:Z10)(c:Y8)(b a:Int):Z2:=
 cond (ilt a b) (qb (qd c a) λ e=>qb (qjH m ((UInt8.toNat e:Nat):Int)) λ d=>cond (qg d) (some false) (f c b (iw .i64 (qf a 1)))) (some true)
def QA(m:Nat):=qC (qfS m)
def qdY:Nat->Z11:=qA λ m _=>qft m (QA m m)
def qgD(m:Nat)(b:Z13)(i:Z15)(a:T)(d f e:Int):Z12:=
 let g:Z12:=(qb (qdY m a.name) λ h=>cond (qg h) (some ((iw .i64 (qf f 1),qnM e d,()),(2,()))) (cond (ilt 8 a.kids.length) (some ((iw .i64 (qf f 1),qnM e d,()),(3,())))
 (i d a.kids a.kids.length 0 (iw .i64 (qf f 1)) (qnM e d))));let c:Z12:=(some ((iw .i64 (qf f 1),qnM e d,()),(1,())));let j3:Z12:=
 (cond (ilt a.sort 0) c (cond (ilt 5 a.sort) c (cond (ilt 0 a.kids.length) c g)));cond (ieq a.kind 1) j3 (cond (ieq a.kind 2) j3 (cond (ieq a.kind 3) (cond (qg (ieq a.sort 0)) c g) c))
def qgx(m:Nat)(a:Z13)(j:Z15)(h:Int)(g:TL)(f c e d:Int):Z12:=
 cond (ilt c f) (qb (qd g c) λ i=>qb (a (re i) (iw .i64 (qf h 1)) e d) λ b=>cond (qg (ieq b.2.1 0)) (some ((b.1.1,b.1.2.1,()),(b.2.1,())))
 (j h g f (iw .i64 (qf c 1)) b.1.1 b.1.2.1)) (some ((e,d,()),(0,())))
def jK(m:Nat)(a:Z13):=qC (qgx m a)
def yi:Nat->Z13:=qA λ m a=>qgD m a (jK m a m)
def qj5(m:Nat)(b:T):Z16:=
 qb (yi m (re b) 1 0 0) λ a=>cond (qg (ieq a.2.1 0)) (some a.2.1) (cond (ilt 400 a.1.1) (some 3) (cond (ilt 40 a.1.2.1) (some 3) (some 0)))
def zj:=qF qj5
def qdJ(m:Nat)(c:Z20)(b:Y8):Z18:=
 qb (qiC 0) λ a=>c b a a.length 0 [] 0 0 0
def qdv(m:Nat)(j:Z20)(e:Y8)(d:List (Y8×(Int×(Int×Int))))(c b:Int)(i:Y8)(h g f:Int):Z18:=
 cond (ilt b c) (qb (qd d b) λ a=>cond (qu a.1 e) (some (a.1,(a.2.1,(a.2.2.1,a.2.2.2)))) (j e d c (iw .i64 (qf b 1)) i h g f)) (some ([],(0,(0,0))))
def Jd(m:Nat):=qC (qdv m)
def qbQ:Nat->(Y8->Z18):=qA λ m _=>qdJ m (Jd m m)
def qeq(m:Nat)(b:Z17)(e:Z21)(d:Z22)(a:T):Z16:=
 cond (qg (ieq a.kind 3)) (some 0) (qb (qbQ m a.name) λ c=>cond (ieq c.2.2.2 0) (some 10) (cond (ilt a.kids.length c.2.1) (some 6) (cond (ilt c.2.2.1 a.kids.length) (some 6)
 (cond (qu a.name [115,107]) (e a.kids a.kids.length 0 a.kind a.name a.sort a.kids) (cond (qu a.name [115,104,107]) (e a.kids a.kids.length 0 a.kind a.name a.sort a.kids)
 (cond (qu a.name [110,101,119]) (qb (qd a.kids 0) λ f=>cond (qg (ieq f.kind 2)) (some 10) (d a.kids a.kids.length 0)) (d a.kids a.kids.length 0)))))))
def qec(m:Nat)(a:Z17)(k:Z21)(j:Z22)(e:TL)(d c i:Int)(h:Y8)(g:Int)(b:TL):Z16:=
 cond (ilt c d) (qb (qd e c) λ f=>cond (ieq f.kind 3) (some 10) (cond (qg (ieq f.sort 1)) (some 10) (k e d (iw .i64 (qf c 1)) i h g b))) (j b b.length 0)
def qey(m:Nat)(a:Z17)(h:Z21)(g:Z22)(d:TL)(c b:Int):Z16:=
 cond (ilt b c) (qb (qd d b) λ f=>qb (a (re f)) λ e=>cond (qg (ieq e 0)) (some e) (g d c (iw .i64 (qf b 1)))) (some 0)
def zf(m:Nat)(a:Z17):=qC λ b=>(qec m a b.1 b.2,qey m a b.1 b.2)
def qN:Nat->Z17:=qA λ m a=>qeq m a (zf m a m).1 (zf m a m).2
def qhJ(m:Nat)(b:T):Z16:=
 qb (zj m (re b)) λ a=>cond (qg (ieq a 0)) (some a) (qb (qN m (re b)) λ c=>some c)
def qa6:=qF qhJ
def qlx(m:Nat)(b a:Int):Z16:=
 cond (ilt b a) (some (-1)) (cond (ilt a b) (some 1) (some 0))
def qeH:=qF qlx
def qhU(m:Nat)(a:Z17)(c:Z23)(b:T):Z16:=
 c 1 b.kids b.kids.length 0
def qhw(m:Nat)(a:Z17)(h:Z23)(e:Int)(d:TL)(c b:Int):Z16:=
 cond (ilt b c) (qb (qd d b) λ g=>qb (a (re g)) λ f=>h (iw .i64 (qf e f)) d c (iw .i64 (qf b 1))) (some e)
def qcr(m:Nat)(a:Z17):=qC (qhw m a)
def Qt:Nat->Z17:=qA λ m a=>qhU m a (qcr m a m)
def qeA(m:Nat)(c:Z24)(e:Z25)(b a:T):Z16:=
 qb (Qt m (re b)) λ n=>qb (Qt m (re a)) λ l=>qb (qeH m n l) λ d=>let j1:Z16:=(qb (qeH m b.kids.length a.kids.length) λ k=>
 e k 0 b.kind b.name b.sort b.kids a.kind a.name a.sort a.kids);let h:Z16:=(qb (qeH m b.sort a.sort) λ i=>
 cond (ieq i 0) j1 (e i 0 b.kind b.name b.sort b.kids a.kind a.name a.sort a.kids));let j:Z16:=(qb (strings_Compare 0 b.name a.name) λ g=>
 cond (ieq g 0) h (cond (ieq g 0) j1 (e g 0 b.kind b.name b.sort b.kids a.kind a.name a.sort a.kids)));cond (ieq d 0) (qb (qeH m b.kind a.kind) λ f=>
 cond (ieq f 0) j (cond (ieq f 0) h (cond (ieq f 0) j1 (e f 0 b.kind b.name b.sort b.kids a.kind a.name a.sort a.kids))))
 (cond (ieq d 0) j (cond (ieq d 0) h (cond (ieq d 0) j1 (e d 0 b.kind b.name b.sort b.kids a.kind a.name a.sort a.kids))))
def qb0(m:Nat)(a:Z24)(p:Z25)(d b k:Int)(j:Y8)(i:Int)(c:TL)(h:Int)(g:Y8)(f:Int)(e:TL):Z16:=
 cond (ieq d 0) (cond (ilt b c.length) (qb (qd c b) λ o=>qb (qd e b) λ n=>qb (a (re o) (re n)) λ l=>p l (iw .i64 (qf b 1)) k j i c h g f e) (some d))
 (some d)
def Qj(m:Nat)(a:Z24):=qC (qb0 m a)
def qz:Nat->Z24:=qA λ m a=>qeA m a (Qj m a m)
def qi4(m:Nat)(c b:T):Z2:=
 qb (qz m (re c) (re b)) λ a=>some (ieq a 0)
def JZ:=qF qi4
def qlP(m:Nat)(a:T)(b:Y8):Z2:=
 cond (ieq a.kind 3) (some (qu a.name b)) (some false)
def jy:=qF qlP
def qf5(m:Nat)(b:T):Z28:=
 qb (qd b.kids 0) λ a=>let j1:Z28:=(qb (qd a.kids 0) λ I=>some (re I));let j2:Z28:=(some (re b));let j3:Z28:=(cond (qu b.name [114,101,97,100])
 (qb (jy m (re a) [115,105,103,110]) λ p=>cond p j1 j2) j2);let j4:Z28:=(qb (jy m (re a) [112,97,105,114]) λ G=>cond G (qb (qd a.kids 1) λ F=>some (re F)) j2);
 let B:Z28:=(qb (jy m (re a) [112,97,105,114]) λ J=>cond J j1 j2);cond (ilt 1 b.kids.length) (qb (qd b.kids 1) λ c=>
 cond (qu b.name [102,115,116]) B (cond (qu b.name [115,110,100]) j4 (cond (qu b.name [100,101,99]) (qb (jy m (re a) [101,110,99]) λ E=>cond E (qb (qd a.kids 1) λ D=>
 qb (JZ m (re D) (re c)) λ C=>cond C j1 j2) j2) (cond (qu b.name [97,100,101,99]) (qb (jy m (re a) [97,101,110,99]) λ A=>cond A (qb (qd a.kids 1) λ z=>
 qb (jy m (re z) [112,107]) λ y=>cond y (qb (qd a.kids 1) λ x=>qb (qd x.kids 0) λ w=>qb (JZ m (re w) (re c)) λ v=>cond v j1 j2) j2) j2)
 (cond (qu b.name [111,112,101,110]) (qb (jy m (re a) [115,105,103,110]) λ u=>cond u (qb (jy m (re c) [112,107]) λ t=>cond t (qb (qd a.kids 1) λ s=>
 qb (qd c.kids 0) λ r=>qb (JZ m (re s) (re r)) λ q=>cond q j1 j2) j2) j2) j3)))))
 (cond (qu b.name [102,115,116]) B (cond (qu b.name [115,110,100]) j4 (cond (qu b.name [100,101,99]) (qb (jy m (re a) [101,110,99]) λ o=>cond o (qb (qd a.kids 1) λ n=>
 qb (JZ m (re n) (T.mk 0 [] 0 [])) λ l=>cond l j1 j2) j2) (cond (qu b.name [97,100,101,99]) (qb (jy m (re a) [97,101,110,99]) λ k=>
 cond k (qb (qd a.kids 1) λ j=>qb (jy m (re j) [112,107]) λ i=>cond i (qb (qd a.kids 1) λ h=>qb (qd h.kids 0) λ g=>qb (JZ m (re g)
 (T.mk 0 [] 0 [])) λ f=>cond f j1 j2) j2) j2) (cond (qu b.name [111,112,101,110]) (qb (jy m (re a) [115,105,103,110]) λ e=>
 cond e (qb (jy m (T.mk 0 [] 0 []) [112,107]) λ d=>cond d (qb (qd a.kids 1) λ H=>none) j2) j2) j3)))))
def qc7:=qF qf5
def jh(m:Nat)(b:Z31)(c:Z32)(a:List TL):Z30:=
 b a 0 a a.length 0
def jd(m:Nat)(i:Z31)(h:Z32)(c:List (TL))(b:Int)(e:List (TL))(d a:Int):Z30:=
 cond (ilt a d) (qb (qd e a) λ f=>cond (ilt (iw .i64 (qf b f.length)) 0) none (i c (iw .i64 (qf b f.length)) e d (iw .i64 (qf a 1)))) (qb (yX 0 b) λ g=>
 h c c.length 0 g.2.1)
def jg(m:Nat)(g:Z31)(f:Z32)(d:List (TL))(c b:Int)(a:TL):Z30:=
 cond (ilt b c) (qb (qd d b) λ e=>cond (zo (List.length a+List.length e) 56) (f d c (iw .i64 (qf b 1)) (a++e)) none) (some a)
def qn(m:Nat):=qC λ a=>(jd m a.1 a.2,jg m a.1 a.2)
def zV:Nat->((List TL)->Z30):=qA λ m _=>jh m (qn m m).1 (qn m m).2
def qhx(m:Nat)(d:Z22)(b c:TL):Z16:=
 cond (ilt 200 b.length) (some 3) (qb (zV m [b,c]) λ a=>d a a.length 0)
def qir(m:Nat)(f:Z22)(c:TL)(b a:Int):Z16:=
 cond (ilt a b) (qb (qd c a) λ e=>qb (zj m (re e)) λ d=>cond (qg (ieq d 0)) (some d) (f c b (iw .i64 (qf a 1)))) (some 0)
def qck(m:Nat):=qC (qir m)
def qm6:Nat->(TL->TL->Z16):=qA λ m _=>qhx m (qck m m)
def qjs(m:Nat)(c:Z33)(b a:TL):Z30:=
 c b a []
def qju(m:Nat)(d:Z33)(a b c:TL):Z30:=
 let f:Z30:=(cond (zo (List.length c+List.length a) 56) (cond (zo (List.length (c++a)+List.length b) 56) (some ((c++a)++b)) none) none);cond (ilt 0 a.length) (cond (ilt 0 b.length)
 (qb (qd a 0) λ j=>qb (qd b 0) λ i=>qb (qz m (re j) (re i)) λ e=>cond (ilt e 0) (qb (qd a 0) λ h=>cond (zo (List.length c+1) 56) (cond (inb a.length a.length)
 (cond (inb 1 (Int.toNat a.length)) (d (qao a 1 a.length) b (c++[re h])) none) none) none) (cond (ilt 0 e) (qb (qd b 0) λ g=>cond (zo (List.length c+1) 56) (cond (inb b.length b.length)
 (cond (inb 1 (Int.toNat b.length)) (d a (qao b 1 b.length) (c++[re g])) none) none) none) (cond (inb a.length a.length) (cond (inb 1 (Int.toNat a.length)) (cond (inb b.length b.length)
 (cond (inb 1 (Int.toNat b.length)) (d (qao a 1 a.length) (qao b 1 b.length) c) none) none) none) none))) f) f
def qdl(m:Nat):=qC (qju m)
def qmf:Nat->(TL->TL->Z30):=qA λ m _=>qjs m (qdl m m)
def qee(m:Nat)(a:Z34)(d:Z35)(b:T):Z30:=
 let c:Z30:=(cond (ieq b.kind 3) (cond (qu b.name [120,111,114]) (d [] b.kids b.kids.length 0) (some [re b])) (some [re b]));cond (ieq b.kind 3) (cond (qu b.name [122,101,114,111])
 (cond (ieq b.kids.length 0) (some []) c) c) c
def qen(m:Nat)(a:Z34)(i:Z35)(e d:TL)(c b:Int):Z30:=
 cond (ilt b c) (qb (qd d b) λ h=>qb (a (re h)) λ g=>qb (qmf m e g) λ f=>i f d c (iw .i64 (qf b 1))) (some e)
def QR(m:Nat)(a:Z34):=qC (qen m a)
def yN:Nat->Z34:=qA λ m a=>qee m a (QR m a m)
def qgE(m:Nat)(a:Z29)(c:Z36)(b:T):Z28:=
 c b.kids b.kids.length 0 b.kind b.name b.sort 0 [] 0 [] []
def qgq(m:Nat)(a:Z29)(p:Z36)(i:TL)(h c g:Int)(f:Y8)(e l:Int)(k:Y8)(j:Int)(b d:TL):Z28:=
 cond (ilt c h) (qb (qd i c) λ o=>qb (a (re o)) λ n=>cond (zo (List.length b+1) 56) (p i h (iw .i64 (qf c 1)) g f e l k j (b++[re n]) d) none)
 (some (T.mk g f e b))
def qbo(m:Nat)(a:Z29):=qC (qgq m a)
def jG:Nat->Z29:=qA λ m a=>qgE m a (qbo m a m)
def qeg(m:Nat)(e:Z38)(d:T)(c:List Int)(b:T):Z37:=
 qb (jG m (re d)) λ a=>e c c.length 0 b.kind b.name b.sort b.kids 0 [] 0 a.kind a.name a.sort a.kids []
def qip(m:Nat)(t:Z38)(n:List (Int))(l c g:Int)(f:Y8)(e:Int)(d:TL)(r:Int)(q:Y8)(p k:Int)(j:Y8)(i:Int)(a h:TL):Z37:=
 cond (ilt c l) (qb (qd n c) λ b=>cond (ilt b 0) (some (T.mk 0 [] 0 [],7)) (cond (ile a.length b) (some (T.mk 0 [] 0 [],7)) (qb (qd a b) λ s=>none)))
 (qb (jG m (T.mk g f e d)) λ o=>some (re o,0))
def qaX(m:Nat):=qC (qip m)
def qhG:Nat->(T->(List Int)->T->Z37):=qA λ m _=>qeg m (qaX m m)
def qkJ(m:Nat)(a:Z39)(c:Z40)(b:TL):Z30:=
 cond (qCQ b.length 56) (c b b.length 0 (List.replicate (Int.toNat b.length) (T.mk 0 [] 0 []):TL)) none
def qkG(m:Nat)(b:Z39)(k:Z40)(h:TL)(g a:Int)(d:TL):Z30:=
 cond (ilt a g) (qb (qd h a) λ f=>qb (qhG m (re f) [] (re f)) λ e=>qb (qd d a) λ l=>qb (b f.kids) λ j=>qb (qd (yF d a (re e.1)) a) λ c=>
 cond (ieq f.kids.length 0) (qb (qd (yF (yF d a (re e.1)) a (T.mk c.kind c.name c.sort j)) a) λ i=>k h g (iw .i64 (qf a 1))
 (yF (yF (yF d a (re e.1)) a (T.mk c.kind c.name c.sort j)) a (T.mk i.kind i.name i.sort []))) (k h g (iw .i64 (qf a 1)) (yF (yF d a (re e.1)) a (T.mk c.kind c.name c.sort j))))
 (some d)
def qe4(m:Nat)(a:Z39):=qC (qkG m a)
def qad:Nat->Z39:=qA λ m a=>qkJ m a (qe4 m a m)
def qkI(m:Nat)(c:Z41)(a:TL):Z37:=
 qb (qm6 m a []) λ b=>cond (qg (ieq b 0)) (some (T.mk 0 [] 0 [],b)) (c [] a a.length 0 0 [] 0 [])
def qkM(m:Nat)(r:Z41)(e d:TL)(c b j:Int)(i:Y8)(h:Int)(g:TL):Z37:=
 cond (ilt b c) (qb (qd d b) λ q=>qb (yN m (re q)) λ p=>qb (qmf m e p) λ o=>r o d c (iw .i64 (qf b 1)) j i h g) (qb (qad m e) λ a=>let j1:Z37:=
 (some (T.mk 0 [] 0 [],3));cond (ieq a.length 0) (qb (zj m (T.mk 3 [122,101,114,111] 0 [])) λ n=>cond (qg (ieq n 0)) j1 (some (T.mk 3 [122,101,114,111] 0 [],0))) (cond (ieq a.length 1)
 (qb (qd a 0) λ f=>qb (zj m (re f)) λ l=>cond (qg (ieq l 0)) j1 (some (re f,0))) (qb (zj m (T.mk 3 [120,111,114] 0 a)) λ k=>
 cond (qg (ieq k 0)) j1 (some (T.mk 3 [120,111,114] 0 a,0)))))
def qfc(m:Nat):=qC (qkM m)
def qti:Nat->(TL->Z37):=qA λ m _=>qkI m (qfc m m)
def qeN(m:Nat)(a:T):Z2:=
 cond (ieq a.kind 3) (cond (qu a.name [109,117,108]) (some true) (cond (qu a.name [105,110,118]) (some true) (some (qu a.name [111,110,101])))) (some false)
def qbT:=qF qeN
def qcy(m:Nat)(a:Z29)(d:Z43)(b:T):Z28:=
 qb (yb 0 b.kids) λ c=>d c.2.1.length 0 b.kind b.name b.sort 0 [] 0 c.2.1 []
def qcz(m:Nat)(a:Z29)(o:Z43)(g b f:Int)(e:Y8)(d k:Int)(j:Y8)(i:Int)(c h:TL):Z28:=
 cond (ilt b g) (qb (qd c b) λ n=>qb (a (re n)) λ l=>qb (qd c b) λ p=>o g (iw .i64 (qf b 1)) f e d k j i (yF c b (re l)) h) (some (T.mk f e d c))
def QJ(m:Nat)(a:Z29):=qC (qcz m a)
def zC:Nat->Z29:=qA λ m a=>qcy m a (QJ m a m)
def qdh(m:Nat)(c:T×Int)(b:T):Z16:=
 qb (qz m (re c.1) (re b)) λ a=>some a
def qaA:=qF qdh
def qJ(m:Nat)(c:Z46)(b:List (T×Int))(a:T):Z44:=
 c b b.length 0 b.length a.kind a.name a.sort a.kids
def qI(m:Nat)(k:Z46)(g:List (T×Int))(h a b f:Int)(e:Y8)(d:Int)(c:TL):Z44:=
 cond (ilt a b) (qb (qd g (iw .i64 (qpg .u64 (iw .u64 (iw .i64 (qf a b))) 1))) λ j=>qb (qaA m (re j.1,j.2) (T.mk f e d c)) λ n=>cond (ilt n 0)
 (k g h (iw .i64 (qf (iw .i64 (qpg .u64 (iw .u64 (iw .i64 (qf a b))) 1)) 1)) b f e d c) (k g h a (iw .i64 (qpg .u64 (iw .u64 (iw .i64 (qf a b))) 1)) f e d c)) (cond (ilt a h)
 (qb (qd g a) λ i=>qb (qaA m (re i.1,i.2) (T.mk f e d c)) λ l=>some (a,ieq l 0)) (some (a,false)))
def qr(m:Nat):=qC (qI m)
def qP:Nat->(Z45->T->Z44):=qA λ m _=>qJ m (qr m m)
def qe6(m:Nat)(b:List (T×Int))(c:T×Int):Z47:=
 qb (qP m b (re c.1)) λ a=>cond (qg a.2) (qb (zC m (re c.1)) λ i=>
 qb (zH 0 b a.1 [(re i,c.2)]) λ h=>some ((()),(h.2.1,()))) (qb (qd b a.1) λ e=>qb (qd b a.1) λ d=>
 qb (qd (yF b a.1 (re d.1,iw .i64 (qf e.2 c.2))) a.1) λ g=>cond (ieq g.2 0)
 (qb (zG 0 (yF b a.1 (re d.1,iw .i64 (qf e.2 c.2))) a.1 (iw .i64 (qf a.1 1))) λ f=>some ((()),(f.2.1,())))
 (some ((()),(yF b a.1 (re d.1,iw .i64 (qf e.2 c.2)),()))))
def qb3:=qF qe6
def qbz(m:Nat)(a:Z49)(h:Z50)(e:List (T×Int))(b:T)(d:Int):Z48:=
 qb (qbT m (re b)) λ j=>cond (qg j) (qb (qb3 m e (re b,d)) λ i=>some ((()),(i.2.1,true,()))) (let c:Z48:=(some ((()),([],false,())));let j2:Z48:=
 (let g:Z48:=(let f:Z48:=(cond (qu b.name [105,110,118]) (h (iw .i64 (zX 0 d)) b.kids b.kids.length 0 e) (h d b.kids b.kids.length 0 e));cond (qu b.name [109,117,108])
 (cond (ilt b.kids.length 2) c f) f);cond (qu b.name [105,110,118]) (cond (qg (ieq b.kids.length 1)) c g) g);cond (qu b.name [111,110,101]) (cond (qg (ieq b.kids.length 0)) c j2) j2)
def qbs(m:Nat)(a:Z49)(i:Z50)(f:Int)(e:TL)(d b:Int)(c:List (T×Int)):Z48:=
 cond (ilt b d) (qb (qd e b) λ h=>qb (a c (re h) f) λ g=>cond (qg g.2.2.1) (some ((()),([],false,()))) (i f e d (iw .i64 (qf b 1)) g.2.1))
 (some ((()),(c,true,())))
def jx(m:Nat)(a:Z49):=qC (qbs m a)
def zw:Nat->Z49:=qA λ m a=>qbz m a (jx m a m)
def qiD(m:Nat)(c:T):Z51:=
 qb (zj m (re c)) λ b=>cond (qg (ieq b 0)) (some ([],b)) (qb (zw m [] (re c) 1) λ a=>cond (qg a.2.2.1) (some ([],6)) (cond (ilt 200 a.2.1.length) (some ([],3))
 (some (a.2.1,0))))
def qch:=qF qiD
def qcH(m:Nat)(b:Z53)(a:List (T×Int)):Z16:=
 cond (ilt 200 a.length) (some 3) (b a a a.length 0)
def qcE(m:Nat)(g:Z53)(e d:List (T×Int))(c a:Int):Z16:=
 cond (ilt a c) (qb (qd d a) λ b=>qb (zj m (re b.1)) λ f=>cond (qg (ieq f 0)) (some f) (qb (qbT m (re b.1)) λ j=>cond j (some 1) (cond (ieq b.2 0) (some 7)
 (cond (ilt b.2 (-1000)) (some 7) (cond (ilt 1000 b.2) (some 7) (cond (ilt 0 a) (qb (qd e (iw .i64 (zX a 1))) λ i=>qb (qz m (re i.1) (re b.1)) λ h=>cond (ile 0 h) (some 5)
 (g e d c (iw .i64 (qf a 1)))) (g e d c (iw .i64 (qf a 1))))))))) (some 0)
def j7(m:Nat):=qC (qcE m)
def qaV:Nat->Z54:=qA λ m _=>qcH m (j7 m m)
def qyh(m:Nat)(b:Y8)(a:TL):Z28:=
 some (T.mk 3 b 0 a)
def qe5:=qF qyh
def qdI(m:Nat)(c:Z56)(e d:Z57)(a:List (T×Int)):Z37:=
 qb (qaV m a) λ b=>cond (qg (ieq b 0)) (some (T.mk 0 [] 0 [],b)) (c a a.length 0 0 [] 0 [] [] [])
def qdK(m:Nat)(v:Z56)(t u:Z57)(h:List (T×Int))(g c s:Int)(r:Y8)(q:Int)(p f e:TL):Z37:=
 let d:Z37:=(some (T.mk 0 [] 0 [],3));cond (ilt c g) (qb (qd h c) λ a=>
 cond (ilt 8 a.2) d (cond (ilt a.2 (-8)) d (t h g c a.2 0 s r q a.1.kind a.1.name a.1.sort a.1.kids a.2 p f e))) (qb (zV m [f,e]) λ b=>
 cond (ilt 8 b.length) d (qb (qe5 m [109,117,108] b) λ o=>cond (ieq b.length 0) (qb (qe5 m [111,110,101] []) λ n=>qb (zj m (re n)) λ l=>cond (qg (ieq l 0))
 (some (T.mk 0 [] 0 [],l)) (some (re n,0))) (cond (ieq b.length 1) (qb (qd b 0) λ k=>qb (zj m (re k)) λ j=>cond (qg (ieq j 0)) (some (T.mk 0 [] 0 [],j)) (some (re k,0)))
 (qb (zj m (re o)) λ i=>cond (qg (ieq i 0)) (some (T.mk 0 [] 0 [],i)) (some (re o,0))))))
def qdm(m:Nat)(u:Z56)(t s:Z57)(q:List (T×Int))(p o n l k:Int)(j:Y8)(i h:Int)(g:Y8)(d:Int)(c:TL)(b:Int)(f a e:TL):Z37:=
 cond (ilt l n) (qb (zC m (T.mk h g d c)) λ r=>cond (zo (List.length a+1) 56) (t q p o n (iw .i64 (qf l 1)) k j i h g d c b f (a++[re r]) e) none)
 (s q p o (iw .i64 (zX 0 b)) 0 k j i h g d c b f a e)
def qdk(m:Nat)(u:Z56)(v t:Z57)(q:List (T×Int))(p o n l k:Int)(j:Y8)(i h:Int)(g:Y8)(e:Int)(d:TL)(f:Int)(c b a:TL):Z37:=
 cond (ilt l n) (qb (zC m (T.mk h g e d)) λ s=>qb (qe5 m [105,110,118] [re s]) λ r=>cond (zo (List.length a+1) 56)
 (t q p o n (iw .i64 (qf l 1)) k j i h g e d f c b (a++[re r])) none) (u q p (iw .i64 (qf o 1)) k j i c b a)
def qD(m:Nat):=qC λ a=>(qdK m a.1 a.2.1 a.2.2,qdm m a.1 a.2.1 a.2.2,qdk m a.1 a.2.1 a.2.2)
def Jt:Nat->Z58:=qA λ m _=>qdI m (qD m m).1 (qD m m).2.1 (qD m m).2.2
def qb9(m:Nat)(b:Z59)(a:List (T×Int)):Z47:=
 b a a.length 0 []
def qbZ(m:Nat)(g:Z59)(d:List (T×Int))(c b:Int)(a:List (T×Int)):Z47:=
 cond (ilt b c) (qb (qd d b) λ e=>qb (zC m (re e.1)) λ f=>cond (zo (List.length a+1) 64) (g d c (iw .i64 (qf b 1)) (a++[(re f,e.2)])) none) (some ((()),(a,())))
def Qo(m:Nat):=qC (qbZ m)
def qeu:Nat->(Z45->Z47):=qA λ m _=>qb9 m (Qo m m)
def qdE(m:Nat)(a:T×Int):Z2:=
 cond (ilt a.2 (-1000)) (some true) (some (ilt 1000 a.2))
def qct:=qF qdE
def zK(m:Nat)(b:Z60)(a:List (T×Int)):Z16:=
 b a a.length 0
def qX(m:Nat)(f:Z60)(c:List (T×Int))(b a:Int):Z16:=
 cond (ilt a b) (qb (qd c a) λ d=>qb (qct m (re d.1,d.2)) λ e=>cond e (some a) (f c b (iw .i64 (qf a 1)))) (some (-1))
def qH(m:Nat):=qC (qX m)
def zZ:Nat->Z54:=qA λ m _=>zK m (qH m m)
def yo(m:Nat)(b:List (T×Int)):Z2:=
 qb (zZ m b) λ a=>some (ile 0 a)
def zN:=qF yo
def qe3(m:Nat)(a:List (T×Int)):Z51:=
 qb (zN m a) λ b=>cond b (some ([],7)) (cond (ilt 200 a.length) (some ([],3)) (some (a,0)))
def qev:=qF qe3
def qej(m:Nat)(f:Z61)(d a:List (T×Int)):Z51:=
 qb (qaV m d) λ c=>cond (qg (ieq c 0)) (some ([],c)) (qb (qaV m a) λ b=>cond (qg (ieq b 0)) (some ([],b)) (qb (qeu m d) λ e=>
 f a a.length 0 e.2.1))
def qet(m:Nat)(h:Z61)(d:List (T×Int))(c a:Int)(b:List (T×Int)):Z51:=
 cond (ilt a c) (qb (qd d a) λ f=>qb (qb3 m b (re f.1,f.2)) λ g=>h d c (iw .i64 (qf a 1)) g.2.1) (qb (qev m b) λ e=>some (e.1,e.2))
def JF(m:Nat):=qC (qet m)
def qiq:Nat->Z62:=qA λ m _=>qej m (JF m m)
def qBw(m:Nat)(b:Y8)(a:TL):Z28:=
 some (T.mk 3 b 0 a)
def qh7:=qF qBw
def qhK(m:Nat)(b l:T):Z37:=
 qb (qch m (re l)) λ a=>cond (qg (ieq a.2 0)) (some (T.mk 0 [] 0 [],a.2)) (qb (jy m (re b) [101,120,112]) λ k=>cond k (qb (qd b.kids 1) λ j=>
 qb (qch m (re j)) λ f=>cond (qg (ieq f.2 0)) (some (T.mk 0 [] 0 [],f.2)) (qb (qiq m f.1 a.1) λ c=>cond (qg (ieq c.2 0)) (some (T.mk 0 [] 0 [],c.2))
 (qb (qd b.kids 0) λ h=>cond (ieq c.1.length 0) (some (re h,0)) (qb (Jt m c.1) λ e=>cond (qg (ieq e.2 0)) (some (T.mk 0 [] 0 [],e.2))
 (qb (qh7 m [101,120,112] [re h,re e.1]) λ i=>some (re i,0)))))) (cond (ieq a.1.length 0) (some (re b,0)) (qb (Jt m a.1) λ d=>cond (qg (ieq d.2 0))
 (some (T.mk 0 [] 0 [],d.2)) (qb (qh7 m [101,120,112] [re b,re d.1]) λ g=>some (re g,0)))))
def qht:=qF qhK
def qdf(m:Nat)(a:Z64)(c:Z65)(b:T):Z37:=
 cond (qg (ieq b.kind 3)) (some (re b,0)) (c b.kids b.kids.length 0 b.kind b.name b.sort b.kids 0 [] 0 3 b.name 0 [] [])
def qds(m:Nat)(a:Z64)(C:Z65)(s:TL)(r k z:Int)(c:Y8)(y:Int)(x:TL)(w:Int)(v:Y8)(u f:Int)(e:Y8)(d:Int)(l b:TL):Z37:=
 cond (ilt k r) (qb (qd s k) λ B=>qb (a (re B)) λ n=>cond (qg (ieq n.2 0)) (some (T.mk 0 [] 0 [],n.2)) (cond (zo (List.length b+1) 56)
 (C s r (iw .i64 (qf k 1)) z c y x w v u f e d l (b++[re n.1])) none)) (let h:Z37:=(qb (qc7 m (T.mk f e d b)) λ A=>some (re A,0));
 cond (qu c [102,115,116]) h (cond (qu c [115,110,100]) h (cond (qu c [100,101,99]) h (cond (qu c [97,100,101,99]) h (cond (qu c [111,112,101,110]) h (cond (qu c [114,101,97,100]) h (cond (qu c [120,111,114])
 (qb (qti m b) λ t=>some (re t.1,t.2)) (let q:Z37:=(qb (qch m (T.mk f e d b)) λ g=>cond (qg (ieq g.2 0)) (some (T.mk 0 [] 0 [],g.2))
 (qb (Jt m g.1) λ j=>some (re j.1,j.2)));cond (qu c [109,117,108]) q (cond (qu c [105,110,118]) q (cond (qu c [111,110,101]) q (cond (qu c [101,120,112])
 (qb (qd b 0) λ p=>qb (qd b 1) λ o=>qb (qht m (re p) (re o)) λ i=>some (re i.1,i.2)) (some (T.mk f e d b,0)))))))))))))
def Ji(m:Nat)(a:Z64):=qC (qds m a)
def yH:Nat->Z64:=qA λ m a=>qdf m a (Ji m a m)
def qgR(m:Nat)(d:T):Z37:=
 qb (qa6 m (re d)) λ c=>cond (qg (ieq c 0)) (some (T.mk 0 [] 0 [],c)) (qb (yH m (re d)) λ a=>cond (ieq a.2 0) (qb (zj m (re a.1)) λ b=>cond (qg (ieq b 0))
 (some (T.mk 0 [] 0 [],b)) (some (re a.1,0))) (cond (qg (ieq a.2 0)) (some (T.mk 0 [] 0 [],a.2)) (some (re a.1,0))))
def qgm:=qF qgR
def qf1(m:Nat)(b:Y8):Z2:=
 qb (qbQ m b) λ a=>some (qg (ieq a.2.2.2 3))
def qfC:=qF qf1
def qaj(m:Nat)(a:Z42)(c:Z66)(b:T):Z2:=
 cond (ieq b.kind 3) (qb (qfC m b.name) λ d=>cond (qg d) (some false) (c b.kids b.kids.length 0)) (c b.kids b.kids.length 0)
def qah(m:Nat)(a:Z42)(g:Z66)(d:TL)(c b:Int):Z2:=
 cond (ilt b c) (qb (qd d b) λ f=>qb (a (re f)) λ e=>cond (qg e) (some false) (g d c (iw .i64 (qf b 1)))) (some true)
def yM(m:Nat)(a:Z42):=qC (qah m a)
def zc:Nat->Z42:=qA λ m a=>qaj m a (yM m a m)
def qih(m:Nat)(a:T):Z2:=
 qb (qgm m (re a)) λ b=>cond (ieq b.2 0) (qb (JZ m (re b.1) (re a)) λ d=>cond d (qb (zc m (re a)) λ c=>some c) (some false)) (some false)
def qe2:=qF qih
def qeT(m:Nat)(b:Y8):Z67:=
 qb (jA m (b,(0,false))) λ a=>cond a.1.1.2.2 (some (T.mk 0 [] 0 [],a.1.1.2.1,2)) (cond (qg (ieq a.1.1.2.1 b.length)) (some (T.mk 0 [] 0 [],a.1.1.2.1,2))
 (qb (zj m (re a.2.1)) λ d=>cond (ieq d 3) (some (T.mk 0 [] 0 [],0,3)) (qb (qe2 m (re a.2.1)) λ c=>cond (qg c) (some (T.mk 0 [] 0 [],0,10)) (some (re a.2.1,0,0)))))
def qaf:=qF qeT
def qbD(m:Nat)(c:T)(b:Int)(a:TL):Z69:=
 cond (ieq c.kind b) (cond (zo (List.length a+1) 56) (qb (qd (a++[T.mk 0 [] 0 []]) a.length) λ d=>some ((b,yF (a++[T.mk 0 [] 0 []]) a.length (re c),()),(()))) none)
 (some ((b,a,()),(())))
def qaM:=qF qbD
def qaH(m:Nat)(a:Z70)(f:Z71)(d:T)(c:Int)(b:TL):Z69:=
 qb (qaM m (re d) c b) λ e=>f d.kids d.kids.length 0 e.1.1 e.1.2.1
def qaN(m:Nat)(a:Z70)(i:Z71)(f:TL)(e b d:Int)(c:TL):Z69:=
 cond (ilt b e) (qb (qd f b) λ h=>qb (a (re h) d c) λ g=>i f e (iw .i64 (qf b 1)) g.1.1 g.1.2.1) (some ((d,c,()),(())))
def jR(m:Nat)(a:Z70):=qC (qaN m a)
def zA:Nat->Z70:=qA λ m a=>qaH m a (jR m a m)
def q9:Nat->TL->Option (TL):=qA λ m _=>qqf (qz m)
def qf4(m:Nat)(c b:T):Z2:=
 qb (qz m (re c) (re b)) λ a=>some (ieq a 0)
def ji:=qF qf4
def qM:Nat->TL->Option (Unit×TL×Unit):=qA λ m _=>qwC (ji m)
def qex(m:Nat)(d:Z73)(c:TL):Z72:=
 qb (q9 m c) λ b=>cond (Nat.beq b.length c.length) (qb (qM m b) λ a=>d a.2.1.length 0 a.2.1) none
def qer(m:Nat)(f:Z73)(c a:Int)(b:TL):Z72:=
 cond (ilt a c) (qb (qd b a) λ e=>qb (jG m (re e)) λ d=>qb (qd b a) λ g=>f c (iw .i64 (qf a 1)) (yF b a (re d))) (some ((()),(b,())))
def JK(m:Nat):=qC (qer m)
def qma:Nat->(Z14->Z72):=qA λ m _=>qex m (JK m m)
def qja(m:Nat)(d:T)(c:Int):Z30:=
 qb (zA m (re d) c []) λ b=>qb (qma m b.1.2.1) λ a=>some a.2.1
def qnR:=qF qja
def qml(m:Nat)(b:T):Z30:=
 qb (qnR m (re b) 1) λ a=>some a
def qjG:=qF qml
def qlN(m:Nat)(b:Y8×(Int×Int))(a:T):Z74:=
 some ((re a,()),(qu b.1 a.name,()))
def qhc:=qF qlN
def yV(m:Nat)(c:Z76)(b:List (Y8×(Int×Int)))(a:T):Z75:=
 c b b.length 0 a.kind a.name a.sort a.kids
def Jw(m:Nat)(j:Z76)(i:List (Y8×(Int×Int)))(h b g:Int)(f:Y8)(e:Int)(d:TL):Z75:=
 cond (ilt b h) (qb (qd i b) λ c=>qb (qhc m (c.1,(c.2.1,c.2.2)) (T.mk g f e d)) λ a=>cond a.2.1 (some ((re a.1.1,()),(b,())))
 (j i h (iw .i64 (qf b 1)) a.1.1.kind a.1.1.name a.1.1.sort a.1.1.kids)) (some ((T.mk g f e d,()),((-1),())))
def yZ(m:Nat):=qC (Jw m)
def jt:Nat->((List (Y8×(Int×Int)))->T->Z75):=qA λ m _=>yV m (yZ m m)
def qko(m:Nat)(a:Z78)(f:Z79)(d:List (Int))(c:T):Z77:=
 cond (qg (ieq c.kind 3)) (cond (zo (List.length d+2) 1) (cond (zo (List.length (d++[iw .u8 c.sort,iw .u8 c.name.length])+List.length (qcJ c.name)) 1)
 (some ((()),((d++[iw .u8 c.sort,iw .u8 c.name.length])++(qcJ c.name),()))) none) none) (qb (yv m) λ i=>
 qb (jt m i (re c)) λ b=>cond (zo (List.length d+1) 1) (qb (yv m) λ h=>qb (qd h b.2.1) λ e=>
 qb (yG m (e.1,(e.2.1,e.2.2))) λ g=>cond g (cond (zo (List.length (d++[iw .u8 (iw .i64 (qf 16 b.2.1))])+1) 1)
 (f b.1.1.kids b.1.1.kids.length 0 ((d++[iw .u8 (iw .i64 (qf 16 b.2.1))])++[iw .u8 b.1.1.kids.length])) none) (f b.1.1.kids b.1.1.kids.length 0 (d++[iw .u8 (iw .i64 (qf 16 b.2.1))]))) none)
def qtP(m:Nat)(a:Z78)(h:Z79)(e:TL)(d b:Int)(c:List (Int)):Z77:=
 cond (ilt b d) (qb (qd e b) λ g=>qb (a c (re g)) λ f=>h e d (iw .i64 (qf b 1)) f.2.1) (some ((()),(c,())))
def ql6(m:Nat)(a:Z78):=qC (qtP m a)
def qfQ:Nat->Z78:=qA λ m a=>qko m a (ql6 m a m)
def qsh(m:Nat)(a:T):(Option ((Y8)×(Int))):=
 qb (qa6 m (re a)) λ b=>cond (qg (ieq b 0)) (some ([],b)) (qb (qjG m (re a)) λ e=>cond (ilt 0 e.length) (some ([],13)) (qb (qe2 m (re a)) λ d=>cond (qg d)
 (some ([],10)) (qb (qfQ m [] (re a)) λ c=>some (Jb c.2.1,0))))
def qmH:=qF qsh
def qgQ(m:Nat)(a:Y8):Z2:=
 cond (qu a [120,111,114]) (some false) (cond (qu a [122,101,114,111]) (some false) (cond (qu a [101,120,112]) (some false) (cond (qu a [109,117,108]) (some false) (cond (qu a [105,110,118])
 (some false) (cond (qu a [111,110,101]) (some false) (qb (qbQ m a) λ b=>some (qg (ieq b.2.2.2 3))))))))
def qgv:=qF qgQ
def JW(m:Nat)(a:Z42)(c:Z66)(b:T):Z2:=
 cond (ieq b.kind 3) (qb (qgv m b.name) λ d=>cond (qg d) (some false) (c b.kids b.kids.length 0)) (c b.kids b.kids.length 0)
def JY(m:Nat)(a:Z42)(g:Z66)(d:TL)(c b:Int):Z2:=
 cond (ilt b c) (qb (qd d b) λ f=>qb (a (re f)) λ e=>cond (qg e) (some false) (g d c (iw .i64 (qf b 1)))) (some true)
def yy(m:Nat)(a:Z42):=qC (JY m a)
def qV:Nat->Z42:=qA λ m a=>JW m a (yy m a m)
def qiZ(m:Nat)(a:T):Z2:=
 qb (qa6 m (re a)) λ c=>cond (ieq c 0) (qb (qV m (re a)) λ b=>some b) (some false)
def qjf:=qF qiZ
def qd8(m:Nat)(b:T):Z16:=
 qb (qa6 m (re b)) λ a=>cond (qg (ieq a 0)) (some a) (qb (qjf m (re b)) λ c=>cond (qg c) (some 10) (some 0))
def qa4:=qF qd8
def qie(m:Nat)(b:Z22)(a:TL):Z16:=
 cond (ilt 200 a.length) (some 3) (b a a.length 0)
def qpM(m:Nat)(f:Z22)(c:TL)(b a:Int):Z16:=
 cond (ilt a b) (qb (qd c a) λ e=>qb (qa4 m (re e)) λ d=>cond (qg (ieq d 0)) (some d) (f c b (iw .i64 (qf a 1)))) (some 0)
def qiz(m:Nat):=qC (qpM m)
def qkn:Nat->(TL->Z16):=qA λ m _=>qie m (qiz m m)
def qnl(m:Nat)(a:Z81)(d:Z82)(e:Z83)(c:List (T×T))(b:T):Z28:=
 d c c c.length 0 b.kind b.name b.sort b.kids 0 [] 0 []
def qxe(m:Nat)(a:Z81)(r:Z82)(q:Z83)(n l:List (T×T))(k h g:Int)(f:Y8)(e:Int)(d:TL)(j:Int)(i:Y8)(c:Int)(b:TL):Z28:=
 cond (ilt h k) (qb (qd l h) λ o=>qb (qz m (re o.1) (T.mk g f e d)) λ p=>cond (ieq p 0) (some (re o.2)) (r n l k (iw .i64 (qf h 1)) g f e d j i c b))
 (q n d d.length 0 j i c g f e b [])
def qxH(m:Nat)(a:Z81)(r:Z82)(q:Z83)(j:List (T×T))(i:TL)(h c n:Int)(l:Y8)(k g:Int)(f:Y8)(e:Int)(d b:TL):Z28:=
 cond (ilt c h) (qb (qd i c) λ p=>qb (a j (re p)) λ o=>cond (zo (List.length b+1) 56) (q j i h (iw .i64 (qf c 1)) n l k g f e d (b++[re o])) none)
 (some (T.mk g f e b))
def qfH(m:Nat)(a:Z81):=qC λ b=>(qxe m a b.1 b.2,qxH m a b.1 b.2)
def qeZ:Nat->Z81:=qA λ m a=>qnl m a (qfH m a m).1 (qfH m a m).2
def qk6(m:Nat)(a:Int):Z84:=
 cond (ilt a 10) (cond (inb (iw .i64 (qf a 1))
 (List.length [48,49,50,51,52,53,54,55,56,57,97,98,99,100,101,102,103,104,105,106,107,108,109,110,111,112,113,114,115,116,117,118,119,120,121,122]))
 (cond (inb a (Int.toNat (iw .i64 (qf a 1))))
 (some (qao [48,49,50,51,52,53,54,55,56,57,97,98,99,100,101,102,103,104,105,106,107,108,109,110,111,112,113,114,115,116,117,118,119,120,121,122] a (iw .i64 (qf a 1)))) none) none)
 (cond (inb (iw .i64 (qf (iw .i64 (qsb a 2)) 2))
 (List.length [48,48,48,49,48,50,48,51,48,52,48,53,48,54,48,55,48,56,48,57,49,48,49,49,49,50,49,51,49,52,49,53,49,54,49,55,49,56,49,57,50,48,50,49,50,50,50,51,50,52,50,53,50,54,50,55,50,56,50,57,51,48,51,49,51,50,51,51,51,52,51,53,51,54,51,55,51,56,51,57,52,48,52,49,52,50,52,51,52,52,52,53,52,54,52,55,52,56,52,57,53,48,53,49,53,50,53,51,53,52,53,53,53,54,53,55,53,56,53,57,54,48,54,49,54,50,54,51,54,52,54,53,54,54,54,55,54,56,54,57,55,48,55,49,55,50,55,51,55,52,55,53,55,54,55,55,55,56,55,57,56,48,56,49,56,50,56,51,56,52,56,53,56,54,56,55,56,56,56,57,57,48,57,49,57,50,57,51,57,52,57,53,57,54,57,55,57,56,57,57]))
 (cond (inb (iw .i64 (qsb a 2)) (Int.toNat (iw .i64 (qf (iw .i64 (qsb a 2)) 2))))
 (some (qao [48,48,48,49,48,50,48,51,48,52,48,53,48,54,48,55,48,56,48,57,49,48,49,49,49,50,49,51,49,52,49,53,49,54,49,55,49,56,49,57,50,48,50,49,50,50,50,51,50,52,50,53,50,54,50,55,50,56,50,57,51,48,51,49,51,50,51,51,51,52,51,53,51,54,51,55,51,56,51,57,52,48,52,49,52,50,52,51,52,52,52,53,52,54,52,55,52,56,52,57,53,48,53,49,53,50,53,51,53,52,53,53,53,54,53,55,53,56,53,57,54,48,54,49,54,50,54,51,54,52,54,53,54,54,54,55,54,56,54,57,55,48,55,49,55,50,55,51,55,52,55,53,55,54,55,55,55,56,55,57,56,48,56,49,56,50,56,51,56,52,56,53,56,54,56,55,56,56,56,57,57,48,57,49,57,50,57,51,57,52,57,53,57,54,57,55,57,56,57,57] (iw .i64 (qsb a 2))
 (iw .i64 (qf (iw .i64 (qsb a 2)) 2)))) none) none)
def qgh:=qF qk6
def qiv(m:Nat)(a d:Int):Z84:=
 cond (ieq d 10) (let b:Z84:=(cond (ilt a 0) none none);cond (ile 0 a) (cond (ilt a 100) (qb (qgh m a) λ c=>some c) b) b) none
def qdM:=qF qiv
def ql1(m:Nat)(b:Int):Z84:=
 qb (qdM m b 10) λ a=>some a
def qhj:=qF ql1
def qwG(m:Nat)(b:Int):Z84:=
 qb (qhj m b) λ a=>some a
def qmz:=qF qwG
def qkx(m:Nat)(b:Z87)(g:Z88)(a:T)(e:Y8)(c:List (Y8×Y8)):Z86:=
 cond (ieq a.kind 1) (qb (qmz m a.sort) λ d=>cond (qwF d a.name) (cond (qu (qd3 (veq .str) [] c (d++a.name)) []) (qb (qmz m c.length) λ f=>cond (qwF e f)
 (g e a.kids a.kids.length 0 (qcb (veq .str) c (d++a.name) (e++f)) 0 [] 0 a.kind (qd3 (veq .str) [] (qcb (veq .str) c (d++a.name) (e++f)) (d++a.name)) a.sort [] []) none)
 (g e a.kids a.kids.length 0 c 0 [] 0 a.kind (qd3 (veq .str) [] c (d++a.name)) a.sort [] [])) none) (g e a.kids a.kids.length 0 c 0 [] 0 a.kind a.name a.sort [] [])
def qtU(m:Nat)(a:Z87)(r:Z88)(k:Y8)(j:TL)(i d:Int)(h:List (Y8×Y8))(p:Int)(o:Y8)(n g:Int)(f:Y8)(c:Int)(e b:TL):Z86:=
 cond (ilt d i) (qb (qd j d) λ q=>qb (a (re q) k h) λ l=>cond (zo (List.length b+1) 56)
 (r k j i (iw .i64 (qf d 1)) l.1.1 p o n g f c e (b++[re l.2.1])) none) (some ((h,()),(T.mk g f c b,())))
def qlB(m:Nat)(a:Z87):=qC (qtU m a)
def qcY:Nat->Z87:=qA λ m a=>qkx m a (qlB m a m)
def qiF(m:Nat)(d c:T):Z16:=
 qb (zj m (re d)) λ a=>cond (qg (ieq a 0)) (some a) (qb (zj m (re c)) λ b=>some b)
def qjl:=qF qiF
def qjY(m:Nat)(c b:T):Z2:=
 qb (qz m (re c) (re b)) λ a=>some (ieq a 0)
def qaK:=qF qjY
def qzu(m:Nat)(a:T):Z2:=
 some (ieq a.kind 1)
def qaT:=qF qzu
def qkf(m:Nat)(a b:T):Z2:=
 qb (zj m (re a)) λ d=>cond (qg (ieq d 0)) (some false) (qb (zj m (re b)) λ c=>cond (qg (ieq c 0)) (some false) (cond (qg (ieq a.kind 1)) (some false) (cond (ieq a.sort 0)
 (some true) (cond (qg (ieq b.kind 3)) (some (ieq b.sort a.sort)) (some false)))))
def qfU:=qF qkf
def qiP(m:Nat)(b a:T):Z2:=
 cond (ieq b.kind 3) (cond (ieq a.kind 3) (cond (qu b.name a.name) (some (ieq b.kids.length a.kids.length)) (some false)) (some false)) (some false)
def qgd:=qF qiP
def qC9(m:Nat)(a:T):(Option (Y8×Int)):=
 some (a.name,a.sort)
def qdc:=qF qC9
def qsg(m:Nat)(b:Z91)(f:Z92)(c:List ((Y8×Int)×T))(a:T):Z90:=
 qb (qaT m (re a)) λ e=>cond e (qb (qdc m (re a)) λ d=>cond (qmo (veq (.pair .str (.int .i64))) c (d.1,d.2)) (some ((c,()),(re (qd3 (veq (.pair .str (.int .i64)))
 (T.mk 0 [] 0 []) c (d.1,d.2)),()))) (some ((c,()),(re a,())))) (cond (ieq a.kids.length 0) (some ((c,()),(re a,()))) (cond (qCQ a.kids.length 56)
 (f a.kids a.kids.length 0 c a.kind a.name a.sort a.kids 0 [] 0 [] (List.replicate (Int.toNat a.kids.length) (T.mk 0 [] 0 []):TL)) none))
def qEH(m:Nat)(a:Z91)(r:Z92)(k:TL)(j c:Int)(i:List ((Y8×Int)×T))(h:Int)(g:Y8)(f:Int)(p:TL)(o:Int)(n:Y8)(e:Int)(d b:TL):Z90:=
 cond (ilt c j) (qb (qd k c) λ q=>qb (a i (re q)) λ l=>qb (qd b c) λ s=>r k j (iw .i64 (qf c 1)) l.1.1 h g f p o n e d (yF b c (re l.2.1)))
 (some ((i,()),(T.mk h g f b,())))
def qt8(m:Nat)(a:Z91):=qC (qEH m a)
def qeY:Nat->Z91:=qA λ m a=>qsg m a (qt8 m a m)
def qix(m:Nat)(f g:Z94)(c:(List (T×T))×(List (T×T))×Unit)(b a:T):Z93:=
 qb (qdc m (re b)) λ e=>qb (jb 0 c.1) λ d=>
 f d.2.1.length 0 c.1 b.kind b.name b.sort b.kids a.kind a.name a.sort a.kids true (qcb (veq (.pair .str (.int .i64))) ([]:List ((Y8×Int)×T)) (e.1,e.2) (re a)) c.2.1 d.2.1
def qq6(m:Nat)(v B:Z94)(t a:Int)(s:List (T×T))(r:Int)(q:Y8)(p:Int)(o:TL)(n:Int)(l:Y8)(k:Int)(d:TL)(h:Bool)(g:List ((Y8×Int)×T))(c b:List (T×T)):Z93:=
 cond (ilt a t) (qb (qd b a) λ f=>qb (qeY m g (re f.1)) λ e=>cond h (qb (qd (yF b a (re e.2.1,re f.2)) a) λ A=>qb (zj m (re A.1)) λ z=>
 qb (qd (yF b a (re e.2.1,re f.2)) a) λ u=>qb (qeY m e.1.1 (re u.2)) λ i=>cond (ieq z 0) (qb (qd (yF (yF b a (re e.2.1,re f.2)) a (re u.1,re i.2.1)) a) λ y=>
 qb (zj m (re y.2)) λ x=>v t (iw .i64 (qf a 1)) s r q p o n l k d (ieq x 0) i.1.1 c (yF (yF b a (re e.2.1,re f.2)) a (re u.1,re i.2.1)))
 (v t (iw .i64 (qf a 1)) s r q p o n l k d false i.1.1 c (yF (yF b a (re e.2.1,re f.2)) a (re u.1,re i.2.1)))) (qb (qd (yF b a (re e.2.1,re f.2)) a) λ w=>
 qb (qeY m e.1.1 (re w.2)) λ j=>v t (iw .i64 (qf a 1)) s r q p o n l k d false j.1.1 c (yF (yF b a (re e.2.1,re f.2)) a (re w.1,re j.2.1))))
 (B c.length 0 s r q p o n l k d h g c b)
def qq5(m:Nat)(v s:Z94)(q d:Int)(r:List (T×T))(n:Int)(l:Y8)(k:Int)(j:TL)(i:Int)(h:Y8)(g:Int)(c:TL)(e:Bool)(p:List ((Y8×Int)×T))(a b:List (T×T)):Z93:=
 cond (ilt d q) (qb (qd a d) λ o=>qb (qeY m p (re o.2)) λ f=>cond e (qb (qd (yF a d (re o.1,re f.2.1)) d) λ u=>qb (zj m (re u.2)) λ t=>
 s q (iw .i64 (qf d 1)) r n l k j i h g c (ieq t 0) f.1.1 (yF a d (re o.1,re f.2.1)) b)
 (s q (iw .i64 (qf d 1)) r n l k j i h g c false f.1.1 (yF a d (re o.1,re f.2.1)) b)) (cond (zo (List.length a+1) 112) (cond (qg e)
 (some (((b,a++[(T.mk n l k j,T.mk i h g c)],()),()),(3,()))) (some (((b,a++[(T.mk n l k j,T.mk i h g c)],()),()),(0,())))) none)
def qbU(m:Nat):=qC λ a=>(qq6 m a.1 a.2,qq5 m a.1 a.2)
def qbf:Nat->Z96:=qA λ m _=>qix m (qbU m m).1 (qbU m m).2
def qrn(m:Nat)(a:(List (T×T))×(List (T×T))×Unit)(c b:T):Z93:=
 let f:Z93:=(qb (qbf m (a.1,a.2.1,()) (re c) (re b)) λ d=>some (((d.1.1.1,d.1.1.2.1,()),()),(d.2.1,())));let j2:Z93:=(qb (qbf m (a.1,a.2.1,()) (re b)
 (re c)) λ e=>some (((e.1.1.1,e.1.1.2.1,()),()),(e.2.1,())));cond (ieq c.sort b.sort) (qb (qz m (re c) (re b)) λ g=>cond (ilt g 0) j2 f)
 (cond (ieq b.sort 0) j2 (cond (qg (ieq c.sort 0)) (some (((a.1,a.2.1,()),()),(11,()))) f))
def qmX:=qF qrn
def qxR(m:Nat)(d:Z26)(a:Z97)(c:Z98)(b:Z99)(f e:T):Z2:=
 qb (qaK m (re f) (re e)) λ h=>cond h (some true) (qb (a e.kids (re f)) λ g=>some g.2.1)
def qa8(m:Nat)(d:Z26)(b:Z97)(c:Z98)(a:Z99)(g:TL)(e:T):Z74:=
 qb (a g (re e)) λ f=>some ((re f.1.1,()),(ile 0 f.2.1,()))
def qn2(m:Nat)(c:Z26)(a:Z97)(d:Z98)(b:Z99)(g e:T):Z74:=
 qb (c (re e) (re g)) λ f=>some ((re e,()),(f,()))
def Qs(m:Nat)(e:Z26)(a:Z97)(c:Z98)(b:Z99)(g:qSq)(f:TL)(d:T):Z75:=
 g f f.length 0 d.kind d.name d.sort d.kids
def qbS(m:Nat)(d:Z26)(a:Z97)(c:Z98)(b:Z99)(o:qSq)(l:TL)(k f j:Int)(i:Y8)(h:Int)(g:TL):Z75:=
 cond (ilt f k) (qb (qd l f) λ n=>qb (c (re n) (T.mk j i h g)) λ e=>cond e.2.1 (some ((re e.1.1,()),(f,())))
 (o l k (iw .i64 (qf f 1)) e.1.1.kind e.1.1.name e.1.1.sort e.1.1.kids)) (some ((T.mk j i h g,()),((-1),())))
def Qx(m:Nat)(d:Z26)(a:Z97)(c:Z98)(b:Z99):=qC (qbS m d a c b)
def qdu:Nat->(Z26)×(Z97)×(Z98)×(Z99):=qA λ m q=>(qxR m q.1 q.2.1 q.2.2.1 q.2.2.2,qa8 m q.1 q.2.1 q.2.2.1 q.2.2.2,qn2 m q.1 q.2.1 q.2.2.1 q.2.2.2,Qs m q.1 q.2.1 q.2.2.1 q.2.2.2 (Qx m q.1 q.2.1 q.2.2.1 q.2.2.2 m))
def qeQ:Nat->Z26:=λ k=>(qdu k).1
def yO:Nat->Z97:=λ k=>(qdu k).2.1
def qd7:Nat->Z98:=λ k=>(qdu k).2.2.1
def jn:Nat->Z99:=λ k=>(qdu k).2.2.2
def qiA(m:Nat)(r:qS5)(a:(List (T×T))×(List (T×T))×Unit):Z93:=
 qb (qd a.1 0) λ b=>qb (qd a.1 0) λ c=>cond (inb a.1.length a.1.length) (cond (inb 1 (Int.toNat a.1.length)) (qb (qaK m (re b.1) (re c.2)) λ q=>
 cond q (some (((qao a.1 1 a.1.length,a.2.1,()),()),(0,()))) (qb (qgd m (re b.1) (re c.2)) λ p=>
 cond p (r b.1.kids.length 0 (qao a.1 1 a.1.length) b.1.kind b.1.name b.1.sort b.1.kids c.2.kind c.2.name c.2.sort c.2.kids a.2.1 []) (qb (qaT m (re b.1)) λ o=>let j1:Z93:=
 (qb (qaT m (re c.2)) λ l=>let j2:Z93:=(some (((qao a.1 1 a.1.length,a.2.1,()),()),(11,())));cond l (qb (qfU m (re c.2) (re b.1)) λ k=>
 cond (qg k) j2 (qb (qeQ m (re c.2) (re b.1)) λ j=>cond j (some (((qao a.1 1 a.1.length,a.2.1,()),()),(12,()))) (qb (qbf m (qao a.1 1 a.1.length,a.2.1,()) (re c.2)
 (re b.1)) λ e=>some (((e.1.1.1,e.1.1.2.1,()),()),(e.2.1,()))))) (qb (qaT m (re b.1)) λ i=>cond (qg i) j2 (qb (qfU m (re b.1) (re c.2)) λ h=>
 cond (qg h) j2 (qb (qeQ m (re b.1) (re c.2)) λ g=>cond g (some (((qao a.1 1 a.1.length,a.2.1,()),()),(12,()))) (qb (qbf m (qao a.1 1 a.1.length,a.2.1,())
 (re b.1) (re c.2)) λ d=>some (((d.1.1.1,d.1.1.2.1,()),()),(d.2.1,())))))));cond o (qb (qaT m (re c.2)) λ n=>cond n (qb (qmX m (qao a.1 1 a.1.length,a.2.1,())
 (re b.1) (re c.2)) λ f=>some (((f.1.1.1,f.1.1.2.1,()),()),(f.2.1,()))) j1) j1))) none) none
def qrb(m:Nat)(q:qS5)(g d:Int)(e:List (T×T))(n:Int)(l:Y8)(k:Int)(f:TL)(j:Int)(i:Y8)(h:Int)(c:TL)(b a:List (T×T)):Z93:=
 cond (ilt d g) (qb (qd f d) λ p=>qb (qd c d) λ o=>cond (zo (List.length a+1) 112) (q g (iw .i64 (qf d 1)) e n l k f j i h c b (a++[(re p,re o)])) none)
 (cond (zo (List.length a+List.length e) 112) (some (((a++e,b,()),()),(0,()))) none)
def qjC(m:Nat):=qC (qrb m)
def qlF:Nat->(Z95->Z93):=qA λ m _=>qiA m (qjC m m)
def qqA(m:Nat)(c b:T×T):Z16:=
 qb (qz m (re c.1) (re b.1)) λ a=>some a
def qf0:=qF qqA
def yD:Nat->List (T×T)->Option (List (T×T)):=qA λ m _=>qqf (qf0 m)
def qr2(m:Nat)(b:List (T×T)):qTA:=
 qb (yD m b) λ a=>cond (Nat.beq a.length b.length) (some ((()),(a,()))) none
def qm3:=qF qr2
def qoP(m:Nat)(b:qTd)(a:List (T×T)):qcO:=
 b a []
def qzw(m:Nat)(e:qTd)(c b:List (T×T)):qcO:=
 cond (ilt 0 c.length) (qb (qlF m (c,b,())) λ a=>cond (qg (ieq a.2.1 0)) (some ([],a.2.1)) (e a.1.1.1 a.1.1.2.1)) (qb (qm3 m b) λ d=>some (d.2.1,0))
def qqN(m:Nat):=qC (qzw m)
def qug:Nat->(Z80->qcO):=qA λ m _=>qoP m (qqN m m)
def qzo(m:Nat)(d c:T):qcO:=
 qb (qjl m (re d) (re c)) λ b=>cond (qg (ieq b 0)) (some ([],b)) (qb (qug m [(re d,re c)]) λ a=>some (a.1,a.2))
def quf:=qF qzo
def qin(m:Nat)(c:qNg)(d:qOC)(a:TL):qyT:=
 qb (qkn m a) λ b=>cond (qg (ieq b 0)) (some (0,0,T.mk 0 [] 0 [],b)) (c a a.length 0 0 [] 0 [])
def qqa(m:Nat)(k:qNg)(j:qOC)(d:TL)(c a h:Int)(g:Y8)(f:Int)(e:TL):qyT:=
 cond (ilt a c) (qb (qd d a) λ i=>qb (qcY m (re i) [97] []) λ b=>j d a (iw .i64 (qf a 1)) c a h g f b.2.1.kind b.2.1.name b.2.1.sort b.2.1.kids e)
 (some (0,0,T.mk 0 [] 0 [],15))
def qpk(m:Nat)(u:qNg)(q:qOC)(e:TL)(n d l k j:Int)(i:Y8)(h g:Int)(f:Y8)(b:Int)(a c:TL):qyT:=
 cond (ilt d e.length) (qb (qd e d) λ t=>qb (qcY m (re t) [98] []) λ s=>qb (quf m (T.mk g f b a) (re s.2.1)) λ p=>cond (qg (ieq p.2 0))
 (q e n (iw .i64 (qf d 1)) l k j i h g f b a c) (qb (qeZ m p.1 (T.mk g f b a)) λ o=>qb (zj m (re o)) λ r=>cond (ieq r 0) (some (n,d,re o,0))
 (q e n (iw .i64 (qf d 1)) l k j i h g f b a c))) (u e l (iw .i64 (qf k 1)) j i h c)
def qby(m:Nat):=qC λ a=>(qqa m a.1 a.2,qpk m a.1 a.2)
def qfY:Nat->(TL->qyT):=qA λ m _=>qin m (qby m m).1 (qby m m).2
def qlz(m:Nat)(b:Y8)(a:TL):Z28:=
 cond (zo (List.length ([]:TL)+List.length a) 56) (qkH a (some (T.mk 3 b 0 [])) λ d c=>some (T.mk 3 b 0 ([]++(d::c)))) none
def yP:=qF qlz
def qCj(m:Nat)(b:Y8)(a:Int):Z28:=
 some (T.mk 2 b a [])
def qkD:=qF qCj
def qF4(m:Nat)(b:Y8)(a:Int):Z28:=
 some (T.mk 1 b a [])
def qnb:=qF qF4
def qyR(m:Nat):Z2:=
 qb (qkD m [97] 1) λ r=>qb (yP m [122,101,114,111] []) λ q=>qb (yP m [112,97,105,114] [re r,re q]) λ p=>qb (qnb m [120] 0) λ n=>
 qb (qnb m [121] 0) λ l=>qb (qmH m (re p)) λ k=>qb (qaf m [16,1,1,97]) λ j=>qb (qaf m [16,1,0]) λ i=>qb (qkD m [110] 2) λ o=>
 qb (yP m [112,97,105,114] [re n,re o]) λ h=>qb (qkD m [107] 3) λ g=>qb (yP m [112,97,105,114] [re g,re l]) λ f=>
 qb (qfY m [re h,re f]) λ b=>qb (qnb m [120] 2) λ e=>qb (yP m [112,97,105,114] [re n,re l]) λ d=>qb (qfY m [re e,re d]) λ c=>
 let a:Z2:=(some false);cond (qu k.1 [16,1,1,97,23]) (cond (ieq k.2 0) (cond (ieq j.2.1 4) (cond (ieq j.2.2 2) (cond (ieq i.2.1 2) (cond (ieq i.2.2 2) (cond (ieq b.1 0) (cond (ieq b.2.1 1)
 (cond (ieq b.2.2.2 0) (some (ieq c.2.2.2 15)) a) a) a) a) a) a) a) a) a
def qgf:=qF qyR
def qef(m:Nat)(a:qJO)(d:qyV)(b:T)(c:Int):Z16:=
 cond (ile c 0) (some (-1)) (cond (ilt 40 b.name.length) (some (-1)) (d (iw .i64 (zX c 1)) 0 b.kind b.name b.sort b.kids))
def qeB(m:Nat)(a:qJO)(j:qyV)(d c h:Int)(g:Y8)(f:Int)(b:TL):Z16:=
 cond (ilt c b.length) (qb (qd b c) λ i=>qb (a (re i) d) λ e=>cond (ilt e 0) (some (-1)) (j e (iw .i64 (qf c 1)) h g f b)) (some d)
def JN(m:Nat)(a:qJO):=qC (qeB m a)
def jl:Nat->qJO:=qA λ m a=>qef m a (JN m a m)
def qh6(m:Nat)(d:Z66)(a:TL)(c b:Int):Z2:=
 cond (ilt c a.length) (some false) (d a b 0)
def qil(m:Nat)(f:Z66)(b:TL)(d a:Int):Z2:=
 cond (ilt a b.length) (qb (qd b a) λ e=>qb (jl m (re e) d) λ c=>cond (ilt c 0) (some false) (f b c (iw .i64 (qf a 1)))) (some true)
def qcj(m:Nat):=qC (qil m)
def qnr:Nat->(TL->Int->Int->Z2):=qA λ m _=>qh6 m (qcj m m)
def qmp(m:Nat)(b:TL):Z2:=
 qb (qnr m b 20 450) λ a=>some a
def qnA:=qF qmp
def qfp(m:Nat)(a:qJt)(l:qRk)(b c:T)(d:List ((Y8×Int)×T)):qJN:=
 qb (qaT m (re b)) λ k=>cond k (qb (qdc m (re b)) λ e=>cond (qmo (veq (.pair .str (.int .i64))) d (e.1,e.2)) (qb (qaK m (re (qd3 (veq (.pair .str (.int .i64)))
 (T.mk 0 [] 0 []) d (e.1,e.2))) (re c)) λ j=>some ((d,()),(j,()))) (qb (qdc m (re b)) λ f=>qb (qfU m (re b) (re c)) λ i=>
 some ((qcb (veq (.pair .str (.int .i64))) d (f.1,f.2) (re c),()),(i,())))) (qb (qgd m (re b) (re c)) λ h=>cond (qg h) (qb (qaK m (re b) (re c)) λ g=>
 some ((d,()),(g,()))) (l b.kids.length 0 d b.kind b.name b.sort b.kids c.kind c.name c.sort c.kids))
def qfN(m:Nat)(a:qJt)(q:qRk)(g c:Int)(f:List ((Y8×Int)×T))(n:Int)(l:Y8)(k:Int)(e:TL)(j:Int)(i:Y8)(h:Int)(b:TL):qJN:=
 cond (ilt c g) (qb (qd e c) λ p=>qb (qd b c) λ o=>qb (a (re p) (re o) f) λ d=>cond (qg d.2.1) (some ((d.1.1,()),(false,())))
 (q g (iw .i64 (qf c 1)) d.1.1 n l k e j i h b)) (some ((f,()),(true,())))
def qbM(m:Nat)(a:qJt):=qC (qfN m a)
def Qa:Nat->qJt:=qA λ m a=>qfp m a (qbM m a m)
def qfG(m:Nat)(f:qST)(a e:T):qcO:=
 qb (qjl m (re a) (re e)) λ d=>cond (qg (ieq d 0)) (some ([],d)) (qb (Qa m (re a) (re e) []) λ c=>cond (qg c.2.1) (some ([],11)) (qb (qjG m (re a)) λ b=>
 f b b.length 0 c.1.1 []))
def qfM(m:Nat)(h:qST)(f:TL)(e c:Int)(b:List ((Y8×Int)×T))(a:List (T×T)):qcO:=
 cond (ilt c e) (qb (qd f c) λ g=>qb (qdc m (re g)) λ d=>qb (qaK m (re (qd3 (veq (.pair .str (.int .i64))) (T.mk 0 [] 0 []) b (d.1,d.2))) (re g)) λ i=>cond (qg i)
 (cond (zo (List.length a+1) 112) (h f e (iw .i64 (qf c 1)) b (a++[(re g,re (qd3 (veq (.pair .str (.int .i64))) (T.mk 0 [] 0 []) b (d.1,d.2)))])) none) (h f e (iw .i64 (qf c 1)) b a))
 (some (a,0))
def qbN(m:Nat):=qC (qfM m)
def qjt:Nat->qSf:=qA λ m _=>qfG m (qbN m m)
def qaZ(m:Nat)(d:T)(e:Y8):qcO:=
 qb (qa4 m (re d)) λ c=>cond (qg (ieq c 0)) (some ([],c)) (qb (qaf m e) λ a=>cond (qg (ieq a.2.2 0)) (some ([],a.2.2)) (qb (qjt m (re d)
 (re a.1)) λ b=>cond (qg (ieq b.2 0)) (some ([],11)) (some (b.1,0))))
def qgk:=qF qaZ
def qhP(m:Nat)(a:Int):Z2:=
 let b:Z2:=(cond (ile 65 a) (some (ile a 90)) (some false));cond (ile 97 a) (cond (ile a 122) (some true) b) b
def qe1:=qF qhP
def qiU(m:Nat)(a:Int):Z2:=
 cond (ile 48 a) (some (ile a 57)) (some false)
def qjo:=qF qiU
def qeb(m:Nat)(d:qSA)(a:Y8):Z2:=
 cond (ieq a.length 0) (some false) (cond (ilt 24 a.length) (some false) (qb (qd a 0) λ c=>qb (qe1 m ((UInt8.toNat c:Nat):Int)) λ b=>cond (qg b) (some false) (d a 0)))
def qew(m:Nat)(i:qSA)(b:Y8)(a:Int):Z2:=
 cond (ilt a b.length) (qb (qd b a) λ h=>qb (qe1 m ((UInt8.toNat h:Nat):Int)) λ g=>let j1:Z2:=(i b (iw .i64 (qf a 1)));cond (qg g) (qb (qd b a) λ f=>
 qb (qjo m ((UInt8.toNat f:Nat):Int)) λ e=>cond (qg e) (qb (qd b a) λ d=>cond (qg (ieq ((UInt8.toNat d:Nat):Int) 95)) (qb (qd b a) λ c=>
 cond (qg (ieq ((UInt8.toNat c:Nat):Int) 35)) (some false) j1) j1) j1) j1) (some true)
def JI(m:Nat):=qC (qew m)
def J2:Nat->Z11:=qA λ m _=>qeb m (JI m m)
def qbP(m:Nat)(e:qJu)(b:Y8)(a:Int):qsf:=
 qb (qd b a) λ d=>let j1:qsf:=(some (T.mk 2 [] (iw .i64 ((UInt8.toNat d:Nat):Int)) [],iw .i64 (qf a 1),false));
 cond (ile b.length (iw .i64 (qf a 1))) j1 (qb (qd b (iw .i64 (qf a 1))) λ c=>
 cond (ilt (iw .i64 ((UInt8.toNat c:Nat):Int)) 1) j1 (cond (ilt 24 (iw .i64 ((UInt8.toNat c:Nat):Int))) j1 (e b a (iw .i64 ((UInt8.toNat c:Nat):Int)) 1 0 [] 0 2 [] (iw .i64 ((UInt8.toNat d:Nat):Int)) [] [])))
def qgu(m:Nat)(o:qJu)(e:Y8)(a d c l:Int)(k:Y8)(j g:Int)(h:Y8)(f:Int)(i b:TL):qsf:=
 cond (ile c d) (cond (ile e.length (iw .i64 (qf (iw .i64 (qf a 1)) c))) (some (T.mk g h f b,iw .i64 (qf (iw .i64 (qf a 1)) c),false)) (cond (inb (iw .i64 (qf (iw .i64 (qf a 2)) c)) e.length)
 (cond (inb (iw .i64 (qf a 2)) (Int.toNat (iw .i64 (qf (iw .i64 (qf a 2)) c)))) (qb (J2 m (qao e (iw .i64 (qf a 2)) (iw .i64 (qf (iw .i64 (qf a 2)) c)))) λ n=>cond (qg n)
 (some (T.mk g h f b,iw .i64 (qf (iw .i64 (qf a 1)) c),false)) (o e a d (iw .i64 (qf c 1)) l k j g h f i b)) none) none)) (cond (inb (iw .i64 (qf (iw .i64 (qf a 2)) d)) e.length)
 (cond (inb (iw .i64 (qf a 2)) (Int.toNat (iw .i64 (qf (iw .i64 (qf a 2)) d)))) (some (T.mk g (qao e (iw .i64 (qf a 2))
 (iw .i64 (qf (iw .i64 (qf a 2)) d))) f b,iw .i64 (qf (iw .i64 (qf a 2)) d),true)) none) none)
def jL(m:Nat):=qC (qgu m)
def qdz:Nat->qGg:=qA λ m _=>qbP m (jL m m)
def qzR(m:Nat):(Option (List Y8)):=
 some [[112,97,105,114],[101,110,99],[97,101,110,99],[112,107],[115,105,103,110],[104,97,115,104],[120,111,114],[122,101,114,111],[101,120,112],[109,117,108],[105,110,118],[111,110,101],[115,107],[115,104,107],[110,101,119]]
def qnO:=qF qzR
def qgZ(m:Nat)(a:Y8):Z2:=
 cond (qu a [120,111,114]) (some true) (cond (qu a [109,117,108]) (some true) (some (qu a [110,101,119])))
def qgt:=qF qgZ
def quF(m:Nat):qTu:=
 some [([112,97,105,114],(2,(2,1))),([101,110,99],(2,(2,1))),([97,101,110,99],(2,(2,1))),([112,107],(1,(1,1))),([115,105,103,110],(2,(2,1))),([104,97,115,104],(1,(1,1))),([120,111,114],(2,(8,1))),([122,101,114,111],(0,(0,1))),([101,120,112],(2,(2,1))),([109,117,108],(2,(8,1))),([105,110,118],(1,(1,1))),([111,110,101],(0,(0,1))),([115,107],(1,(1,2))),([115,104,107],(2,(2,2))),([110,101,119],(1,(8,2))),([102,115,116],(1,(1,3))),([115,110,100],(1,(1,3))),([100,101,99],(2,(2,3))),([97,100,101,99],(2,(2,3))),([111,112,101,110],(2,(2,3))),([114,101,97,100],(1,(1,3)))]
def qgs:=qF quF
def qgi(m:Nat)(k:qSi)(b:Y8)(a:Int)(d:Y8):qsS:=
 qb (qgt m d) λ j=>cond (qg j) (qb (qgs m) λ i=>k b a d i 0) (let c:qsS:=(some (0,a,false));let j2:qsS:=(qb (qd b a) λ g=>
 cond (ilt 8 ((UInt8.toNat g:Nat):Int)) c (qb (qd b a) λ f=>some (iw .i64 ((UInt8.toNat f:Nat):Int),iw .i64 (qf a 1),true)));cond (qu d [110,101,119])
 (cond (ile b.length a) c (qb (qd b a) λ h=>cond (ilt (iw .i64 ((UInt8.toNat h:Nat):Int)) 1) c j2)) (cond (ile b.length a) c (qb (qd b a) λ e=>
 cond (ilt (iw .i64 ((UInt8.toNat e:Nat):Int)) 2) c j2)))
def qj6(m:Nat)(o:qSi)(b:Y8)(a:Int)(f:Y8)(e:List (Y8×(Int×(Int×Int))))(d:Int):qsS:=
 cond (ilt d e.length) (qb (qd e d) λ n=>cond (qu n.1 f) (qb (qd e d) λ l=>some (l.2.1,a,true)) (o b a f e (iw .i64 (qf d 1)))) (let c:qsS:=(some (0,a,false));
 let g:qsS:=(qb (qd b a) λ j=>cond (ilt 8 ((UInt8.toNat j:Nat):Int)) c (qb (qd b a) λ i=>some (iw .i64 ((UInt8.toNat i:Nat):Int),iw .i64 (qf a 1),true)));
 cond (qu f [110,101,119]) (cond (ile b.length a) c (qb (qd b a) λ k=>cond (ilt (iw .i64 ((UInt8.toNat k:Nat):Int)) 1) c g)) (cond (ile b.length a) c (qb (qd b a) λ h=>
 cond (ilt (iw .i64 ((UInt8.toNat h:Nat):Int)) 2) c g)))
def qbd(m:Nat):=qC (qj6 m)
def qdx:Nat->(Y8->Int->Y8->qsS):=qA λ m _=>qgi m (qbd m m)
def qam(m:Nat)(a:qGg)(o:qJu)(c:Y8)(b:Int):qsf:=
 let g:qsf:=(some (T.mk 0 [] 0 [],b,false));cond (ile c.length b) g (qb (qd c b) λ n=>cond (ile ((UInt8.toNat n:Nat):Int) 5) (qb (qdz m c b) λ f=>
 some (re f.1,f.2.1,f.2.2)) (qb (qd c b) λ l=>cond (ilt ((UInt8.toNat l:Nat):Int) 16) g (qb (qd c b) λ k=>qb (qnO m) λ j=>cond (ile (iw .i64 (qf 16 j.length))
 (iw .i64 ((UInt8.toNat k:Nat):Int))) g (qb (qnO m) λ i=>qb (qd c b) λ h=>qb (qd i (iw .i64 (zX (iw .i64 ((UInt8.toNat h:Nat):Int)) 16))) λ e=>
 qb (qdx m c (iw .i64 (qf b 1)) e) λ d=>cond (qg d.2.2) (some (T.mk 3 e 0 [],d.2.1,false)) (o c d.1 d.2.1 0 0 [] 0 3 e 0 [] [])))))
def qdL(m:Nat)(a:qGg)(p:qJu)(k:Y8)(j i h o:Int)(n:Y8)(l f:Int)(e:Y8)(d:Int)(g b:TL):qsf:=
 cond (ilt h j) (qb (a k i) λ c=>cond (qg c.2.2) (some (T.mk f e d b,c.2.1,false)) (cond (zo (List.length b+1) 56)
 (p k j c.2.1 (iw .i64 (qf h 1)) o n l f e d g (b++[re c.1])) none)) (some (T.mk f e d b,i,true))
def Qw(m:Nat)(a:qGg):=qC (qdL m a)
def qW:Nat->qGg:=qA λ m a=>qam m a (Qw m a m)
def qgw(m:Nat)(a:Z17)(c:qyV)(b:T):Z16:=
 c 1 0 b.kind b.name b.sort b.kids
def qgI(m:Nat)(a:Z17)(j:qyV)(d c g:Int)(f:Y8)(e:Int)(b:TL):Z16:=
 cond (ilt c b.length) (qb (qd b c) λ i=>qb (a (re i)) λ h=>j (iw .i64 (qf d h)) (iw .i64 (qf c 1)) g f e b) (some d)
def qbp(m:Nat)(a:Z17):=qC (qgI m a)
def jc:Nat->Z17:=qA λ m a=>qgw m a (qbp m a m)
def qfd(m:Nat)(a:Z17)(c:qyV)(b:T):Z16:=
 c 0 0 b.kind b.name b.sort b.kids
def qfR(m:Nat)(a:Z17)(j:qyV)(d c g:Int)(f:Y8)(e:Int)(b:TL):Z16:=
 cond (ilt c b.length) (qb (qd b c) λ i=>qb (a (re i)) λ h=>j (qnM d h) (iw .i64 (qf c 1)) g f e b) (some (iw .i64 (qf d 1)))
def qau(m:Nat)(a:Z17):=qC (qfR m a)
def jv:Nat->Z17:=qA λ m a=>qfd m a (qau m a m)
def qkg(m:Nat)(a:T):Z16:=
 let d:Z16:=(qb (J2 m a.name) λ e=>cond (qg e) (some 2) (cond (ilt 8 a.kids.length) (some 3) (some 0)));let j2:Z16:=(cond (ilt 0 a.kids.length) (some 1) d);cond (ieq a.kind 1)
 (cond (ilt a.sort 0) (some 1) (cond (ilt 5 a.sort) (some 1) j2)) (let c:Z16:=(cond (ilt a.sort 0) (some 1) (cond (ilt 5 a.sort) (some 1) (let b:Z16:=(cond (ieq a.kind 2) j2 d);
 cond (qg (ieq a.kind 2)) (cond (qg (ieq a.sort 0)) (some 1) b) b)));cond (qg (ieq a.kind 2)) (cond (qg (ieq a.kind 3)) (some 1) c) c)
def qk7:=qF qkg
def qfz(m:Nat)(a:Z17)(d:qJD)(b:T):Z16:=
 qb (qk7 m (re b)) λ c=>cond (qg (ieq c 0)) (some c) (d 0 b.kind b.name b.sort b.kids)
def qfj(m:Nat)(a:Z17)(i:qJD)(c g:Int)(f:Y8)(e:Int)(b:TL):Z16:=
 cond (ilt c b.length) (qb (qd b c) λ h=>qb (a (re h)) λ d=>cond (qg (ieq d 0)) (some d) (i (iw .i64 (qf c 1)) g f e b)) (some 0)
def qar(m:Nat)(a:Z17):=qC (qfj m a)
def jO:Nat->Z17:=qA λ m a=>qfz m a (qar m a m)
def qi5(m:Nat)(a:T):Z16:=
 qb (jO m (re a)) λ b=>cond (qg (ieq b 0)) (some b) (qb (jc m (re a)) λ d=>cond (ilt 400 d) (some 3) (qb (jv m (re a)) λ c=>cond (ilt 40 c) (some 3) (some 0)))
def yA:=qF qi5
def qgl(m:Nat)(c:qRm)(b:Y8):Z16:=
 qb (qgs m) λ a=>c b a 0
def qgC(m:Nat)(f:qRm)(c:Y8)(b:List (Y8×(Int×(Int×Int))))(a:Int):Z16:=
 cond (ilt a b.length) (qb (qd b a) λ e=>cond (qu e.1 c) (qb (qd b a) λ d=>some d.2.2.2) (f c b (iw .i64 (qf a 1)))) (some 0)
def qa3(m:Nat):=qC (qgC m)
def qdC:Nat->(Y8->Z16):=qA λ m _=>qgl m (qa3 m m)
def qgj(m:Nat)(c:qSe)(a:T):Z2:=
 qb (qgs m) λ b=>c b 0 a.kind a.name a.sort a.kids
def qgr(m:Nat)(j:qSe)(b:List (Y8×(Int×(Int×Int))))(a f:Int)(d:Y8)(e:Int)(c:TL):Z2:=
 cond (ilt a b.length) (qb (qd b a) λ i=>cond (qu i.1 d) (qb (qd b a) λ h=>cond (ile h.2.1 c.length) (qb (qd b a) λ g=>some (ile c.length g.2.2.1)) (some false))
 (j b (iw .i64 (qf a 1)) f d e c)) (some false)
def qa0(m:Nat):=qC (qgr m)
def qk5:Nat->Z42:=qA λ m _=>qgj m (qa0 m m)
def qep(m:Nat)(c:qRC)(a:T):Z2:=
 cond (qu a.name [110,101,119]) (qb (qd a.kids 0) λ b=>some (ieq b.kind 2)) (c 0 a.kind a.name a.sort a.kids)
def qei(m:Nat)(h:qRC)(b e:Int)(d:Y8)(c:Int)(a:TL):Z2:=
 cond (ilt b a.length) (qb (qd a b) λ g=>cond (ieq g.kind 3) (some false) (qb (qd a b) λ f=>cond (qg (ieq f.sort 1)) (some false) (h (iw .i64 (qf b 1)) e d c a))) (some true)
def JH(m:Nat):=qC (qei m)
def qid:Nat->Z42:=qA λ m _=>qep m (JH m m)
def qff(m:Nat)(b:Z17)(d:qJD)(a:T):Z16:=
 cond (qg (ieq a.kind 3)) (some 0) (qb (qdC m a.name) λ c=>cond (ieq c 0) (some 10) (qb (qk5 m (re a)) λ f=>cond (qg f) (some 6) (cond (ieq c 2)
 (qb (qid m (re a)) λ e=>cond (qg e) (some 10) (d 0 a.kind a.name a.sort a.kids)) (d 0 a.kind a.name a.sort a.kids))))
def qfk(m:Nat)(a:Z17)(i:qJD)(c g:Int)(f:Y8)(e:Int)(b:TL):Z16:=
 cond (ilt c b.length) (qb (qd b c) λ h=>qb (a (re h)) λ d=>cond (qg (ieq d 0)) (some d) (i (iw .i64 (qf c 1)) g f e b)) (some 0)
def Jp(m:Nat)(a:Z17):=qC (qfk m a)
def jr:Nat->Z17:=qA λ m a=>qff m a (Jp m a m)
def qiH(m:Nat)(b:T):Z16:=
 qb (yA m (re b)) λ a=>cond (qg (ieq a 0)) (some a) (qb (jr m (re b)) λ c=>some c)
def qci:=qF qiH
def qhq(m:Nat)(b a:Int):Z16:=
 cond (ilt b a) (some (-1)) (cond (ilt a b) (some 1) (some 0))
def qbk:=qF qhq
def qdg(m:Nat)(a:Z24)(j:qRl)(c b:T):Z16:=
 qb (jc m (re c)) λ i=>qb (jc m (re b)) λ h=>qb (qbk m i h) λ g=>cond (qg (ieq g 0)) (some g) (qb (qbk m c.kind b.kind) λ f=>
 cond (qg (ieq f 0)) (some f) (cond (slt c.name b.name) (some (-1)) (cond (qg (qrl (slt c.name b.name) (qu c.name b.name))) (some 1) (qb (qbk m c.sort b.sort) λ e=>cond (qg (ieq e 0))
 (some e) (qb (qbk m c.kids.length b.kids.length) λ d=>cond (qg (ieq d 0)) (some d) (j 0 c.kind c.name c.sort c.kids b.kind b.name b.sort b.kids))))))
def qdn(m:Nat)(a:Z24)(o:qRl)(b k:Int)(j:Y8)(i:Int)(c:TL)(h:Int)(g:Y8)(f:Int)(d:TL):Z16:=
 cond (ilt b c.length) (qb (qd c b) λ n=>qb (qd d b) λ l=>qb (a (re n) (re l)) λ e=>cond (qg (ieq e 0)) (some e) (o (iw .i64 (qf b 1)) k j i c h g f d))
 (some 0)
def Je(m:Nat)(a:Z24):=qC (qdn m a)
def zR:Nat->Z24:=qA λ m a=>qdg m a (Je m a m)
def qj4(m:Nat)(c b:T):Z2:=
 qb (zR m (re c) (re b)) λ a=>some (ieq a 0)
def ja:=qF qj4
def qh5(m:Nat)(a:Z34)(c:qSH)(b:T):Z30:=
 c 0 b.kind b.name b.sort b.kids [re b]
def qhz(m:Nat)(a:Z34)(j:qSH)(d h:Int)(g:Y8)(f:Int)(c b:TL):Z30:=
 cond (ilt d c.length) (qb (qd c d) λ i=>qb (a (re i)) λ e=>cond (zo (List.length b+List.length e) 56) (j (iw .i64 (qf d 1)) h g f c (b++e)) none) (some b)
def qce(m:Nat)(a:Z34):=qC (qhz m a)
def j8:Nat->Z34:=qA λ m a=>qh5 m a (qce m a m)
def qnK(m:Nat)(a:T)(b:Y8):Z2:=
 cond (ieq a.kind 3) (some (qu a.name b)) (some false)
def qcp:=qF qnK
def qgO(m:Nat)(a:T):qus:=
 qb (qd a.kids 0) λ b=>let j1:qus:=(qb (qd b.kids 0) λ y=>some (re y,true));let j2:qus:=(let r:qus:=(let q:qus:=(let p:qus:=(let o:qus:=
 (cond (qu a.name [114,101,97,100]) (qb (qcp m (re b) [115,105,103,110]) λ c=>cond c j1 (some (re a,false))) (some (re a,false)));cond (qu a.name [111,112,101,110])
 (qb (qcp m (re b) [115,105,103,110]) λ h=>cond h (qb (qd a.kids 1) λ g=>qb (qd b.kids 1) λ f=>qb (yP m [112,107] [re f]) λ e=>qb (ja m (re g)
 (re e)) λ d=>cond d j1 o) o) o);cond (qu a.name [97,100,101,99]) (qb (qcp m (re b) [97,101,110,99]) λ n=>cond n (qb (qd b.kids 1) λ l=>
 qb (qd a.kids 1) λ k=>qb (yP m [112,107] [re k]) λ j=>qb (ja m (re l) (re j)) λ i=>cond i j1 p) p) p);cond (qu a.name [100,101,99])
 (qb (qcp m (re b) [101,110,99]) λ v=>cond v (qb (qd b.kids 1) λ u=>qb (qd a.kids 1) λ t=>qb (ja m (re u) (re t)) λ s=>cond s j1 q) q) q);
 cond (qu a.name [115,110,100]) (qb (qcp m (re b) [112,97,105,114]) λ x=>cond x (qb (qd b.kids 1) λ w=>some (re w,true)) r) r);cond (qu a.name [102,115,116])
 (qb (qcp m (re b) [112,97,105,114]) λ z=>cond z j1 j2) j2
def qgK:=qF qgO
def qfx(m:Nat)(c:qR3)(b:TL)(a:T):Z16:=
 cond (ilt 200 b.length) (some 3) (c b 0 a.kind a.name a.sort a.kids)
def qfV(m:Nat)(j:qR3)(b:TL)(a f:Int)(e:Y8)(d:Int)(c:TL):Z16:=
 cond (ilt a b.length) (qb (qd b a) λ i=>qb (yA m (re i)) λ g=>cond (qg (ieq g 0)) (some g) (j b (iw .i64 (qf a 1)) f e d c))
 (qb (yA m (T.mk f e d c)) λ h=>some h)
def qat(m:Nat):=qC (qfV m)
def qje:Nat->(TL->T->Z16):=qA λ m _=>qfx m (qat m m)
def qjX(m:Nat):Z28:=
 qb (yP m [122,101,114,111] []) λ a=>some (re a)
def qkP:=qF qjX
def qim(m:Nat)(c:qRO)(b:TL)(a:T):Z30:=
 c b false 0 a.kind a.name a.sort a.kids []
def qis(m:Nat)(i:qRO)(c:TL)(h:Bool)(b g:Int)(f:Y8)(e:Int)(d a:TL):Z30:=
 cond (ilt b c.length) (qb (qd c b) λ o=>qb (zR m (T.mk g f e d) (re o)) λ j=>let j1:Z30:=(qb (qd c b) λ k=>cond (zo (List.length a+1) 56)
 (i c h (iw .i64 (qf b 1)) g f e d (a++[re k])) none);cond (qg h) (cond (ile j 0) (cond (ilt j 0) (cond (zo (List.length a+1) 56) (qb (qd c b) λ n=>
 cond (zo (List.length (a++[T.mk g f e d])+1) 56) (i c true (iw .i64 (qf b 1)) g f e d ((a++[T.mk g f e d])++[re n])) none) none) (qb (qd c b) λ l=>
 cond (zo (List.length a+1) 56) (i c true (iw .i64 (qf b 1)) g f e d (a++[re l])) none)) j1) j1) (cond (qg h) (cond (zo (List.length a+1) 56) (some (a++[T.mk g f e d])) none) (some a))
def qcl(m:Nat):=qC (qis m)
def qjR:Nat->(TL->T->Z30):=qA λ m _=>qim m (qcl m m)
def qia(m:Nat)(c:qRG)(b:TL)(a:T):Z2:=
 c b 0 a.kind a.name a.sort a.kids
def qhF(m:Nat)(i:qRG)(b:TL)(a f:Int)(e:Y8)(d:Int)(c:TL):Z2:=
 cond (ilt a b.length) (qb (qd b a) λ h=>qb (ja m (re h) (T.mk f e d c)) λ g=>cond g (some true) (i b (iw .i64 (qf a 1)) f e d c)) (some false)
def qcm(m:Nat):=qC (qhF m)
def qno:Nat->(TL->T->Z2):=qA λ m _=>qia m (qcm m m)
def qel(m:Nat)(e:qSl)(b:TL)(a:T):Z30:=
 qb (qno m b (re a)) λ d=>cond (qg d) (qb (qjR m b (re a)) λ c=>some c) (e b 0 a.kind a.name a.sort a.kids [])
def qes(m:Nat)(h:qSl)(b:TL)(a g:Int)(f:Y8)(e:Int)(d c:TL):Z30:=
 cond (ilt a b.length) (qb (qd b a) λ k=>qb (ja m (re k) (T.mk g f e d)) λ j=>cond (qg j) (qb (qd b a) λ i=>cond (zo (List.length c+1) 56)
 (h b (iw .i64 (qf a 1)) g f e d (c++[re i])) none) (h b (iw .i64 (qf a 1)) g f e d c)) (some c)
def JL(m:Nat):=qC (qes m)
def qhu:Nat->(TL->T->Z30):=qA λ m _=>qel m (JL m m)
def qgp(m:Nat)(c:qIO)(b a:TL):Z30:=
 cond (zo (List.length ([]:TL)+List.length b) 56) (qkH b (c a [] 0) λ e d=>c a ([]++(e::d)) 0) none
def qgo(m:Nat)(f:qIO)(b c:TL)(a:Int):Z30:=
 cond (ilt a b.length) (qb (qd b a) λ e=>qb (qhu m c (re e)) λ d=>f b d (iw .i64 (qf a 1))) (some c)
def J1(m:Nat):=qC (qgo m)
def qig:Nat->(TL->TL->Z30):=qA λ m _=>qgp m (J1 m m)
def qcF(m:Nat)(a:Z34)(d:qTe)(b:T):Z30:=
 let c:Z30:=(cond (qg (ieq b.kind 3)) (some [re b]) (cond (qg (qu b.name [120,111,114])) (some [re b]) (d [] 0 b.kind b.name b.sort b.kids)));cond (ieq b.kind 3)
 (cond (qu b.name [122,101,114,111]) (cond (ieq b.kids.length 0) (some []) c) c) c
def qcC(m:Nat)(a:Z34)(k:qTe)(d:TL)(c g:Int)(f:Y8)(e:Int)(b:TL):Z30:=
 cond (ilt c b.length) (qb (qd b c) λ j=>qb (a (re j)) λ i=>qb (qig m d i) λ h=>k h (iw .i64 (qf c 1)) g f e b) (some d)
def jZ(m:Nat)(a:Z34):=qC (qcC m a)
def ya:Nat->Z34:=qA λ m a=>qcF m a (jZ m a m)
def qjZ(m:Nat)(a:TL):Z28:=
 cond (ieq a.length 0) (qb (yP m [122,101,114,111] []) λ e=>some (re e)) (cond (ieq a.length 1) (qb (qd a 0) λ d=>some (re d))
 (cond (zo (List.length ([]:TL)+List.length a) 56) (qkH a (some (T.mk 3 [120,111,114] 0 [])) λ c b=>some (T.mk 3 [120,111,114] 0 ([]++(c::b)))) none))
def qk4:=qF qjZ
def qib(m:Nat)(d:qRx)(b:TL):Z37:=
 qb (qkP m) λ c=>qb (qje m b (re c)) λ a=>cond (qg (ieq a 0)) (some (T.mk 0 [] 0 [],a)) (d b [] 0 0 [] 0 [])
def qhv(m:Nat)(n:qRx)(b c:TL)(a h:Int)(g:Y8)(f:Int)(e:TL):Z37:=
 cond (ilt a b.length) (qb (qd b a) λ l=>qb (ya m (re l)) λ k=>qb (qig m c k) λ j=>n b j (iw .i64 (qf a 1)) h g f e) (qb (qk4 m c) λ d=>
 qb (yA m (re d)) λ i=>cond (qg (ieq i 0)) (some (T.mk 0 [] 0 [],3)) (some (re d,0)))
def qcg(m:Nat):=qC (qhv m)
def qnC:Nat->(TL->Z37):=qA λ m _=>qib m (qcg m m)
def qgS(m:Nat)(a:T):Z2:=
 cond (ieq a.kind 3) (cond (qu a.name [109,117,108]) (some true) (cond (qu a.name [105,110,118]) (some true) (some (qu a.name [111,110,101])))) (some false)
def qbR:=qF qgS
def qfi(m:Nat)(b:Z42)(e:qRE)(a:T):Z2:=
 qb (qbR m (re a)) λ f=>cond (qg f) (some true) (let d:Z2:=(let c:Z2:=(cond (qu a.name [111,110,101]) (cond (qg (ieq a.kids.length 0)) (some false)
 (e a.kids.length 0 a.kind a.name a.sort a.kids)) (e a.kids.length 0 a.kind a.name a.sort a.kids));cond (qu a.name [105,110,118]) (cond (qg (ieq a.kids.length 1)) (some false) c) c);
 cond (qu a.name [109,117,108]) (cond (ilt a.kids.length 2) (some false) d) d)
def qfT(m:Nat)(a:Z42)(j:qRE)(d b g:Int)(f:Y8)(e:Int)(c:TL):Z2:=
 cond (ilt b d) (qb (qd c b) λ i=>qb (a (re i)) λ h=>cond (qg h) (some false) (j d (iw .i64 (qf b 1)) g f e c)) (some true)
def Jq(m:Nat)(a:Z42):=qC (qfT m a)
def js:Nat->Z42:=qA λ m a=>qfi m a (Jq m a m)
def qhH(m:Nat)(d:qRu)(c:List (T×Int))(a:T)(b:Int):Z47:=
 d b false 0 a.kind a.name a.sort a.kids c []
def qhC(m:Nat)(i:qRu)(a:Int)(l:Bool)(h f:Int)(e:Y8)(d:Int)(c:TL)(g b:List (T×Int)):Z47:=
 cond (ilt h g.length) (qb (qd g h) λ o=>qb (zR m (T.mk f e d c) (re o.1)) λ n=>let j1:Z47:=(qb (qd g h) λ j=>cond (ieq n 0)
 (cond (qg (ieq (iw .i64 (qf j.2 a)) 0)) (cond (zo (List.length b+1) 64) (i a true (iw .i64 (qf h 1)) f e d c g (b++[(re j.1,iw .i64 (qf j.2 a))])) none)
 (i a true (iw .i64 (qf h 1)) f e d c g b)) (cond (qg (ieq j.2 0)) (cond (zo (List.length b+1) 64) (i a l (iw .i64 (qf h 1)) f e d c g (b++[(re j.1,j.2)])) none)
 (i a l (iw .i64 (qf h 1)) f e d c g b)));cond (qg l) (cond (ilt n 0) (cond (zo (List.length b+1) 64) (qb (qd g h) λ k=>cond (ieq n 0) (cond (qg (ieq (iw .i64 (qf k.2 a)) 0))
 (cond (zo (List.length (b++[(T.mk f e d c,a)])+1) 64) (i a true (iw .i64 (qf h 1)) f e d c g ((b++[(T.mk f e d c,a)])++[(re k.1,iw .i64 (qf k.2 a))])) none)
 (i a true (iw .i64 (qf h 1)) f e d c g (b++[(T.mk f e d c,a)]))) (cond (qg (ieq k.2 0)) (cond (zo (List.length (b++[(T.mk f e d c,a)])+1) 64)
 (i a true (iw .i64 (qf h 1)) f e d c g ((b++[(T.mk f e d c,a)])++[(re k.1,k.2)])) none) (i a true (iw .i64 (qf h 1)) f e d c g (b++[(T.mk f e d c,a)])))) none) j1) j1)
 (cond (qg l) (cond (zo (List.length b+1) 64) (some ((()),(b++[(T.mk f e d c,a)],()))) none) (some ((()),(b,()))))
def JP(m:Nat):=qC (qhC m)
def qjU:Nat->qDH:=qA λ m _=>qhH m (JP m m)
def qdG(m:Nat)(a:qDH)(e:qSc)(d:List (T×Int))(b:T)(c:Int):Z47:=
 qb (qbR m (re b)) λ g=>cond (qg g) (qb (qjU m d (re b) c) λ f=>some ((()),(f.2.1,()))) (cond (qu b.name [105,110,118])
 (e (iw .i64 (zX 0 c)) 0 b.kind b.name b.sort b.kids d) (e c 0 b.kind b.name b.sort b.kids d))
def qdj(m:Nat)(a:qDH)(k:qSc)(e c h:Int)(g:Y8)(f:Int)(b:TL)(d:List (T×Int)):Z47:=
 cond (ilt c b.length) (qb (qd b c) λ j=>qb (a d (re j) e) λ i=>k e (iw .i64 (qf c 1)) h g f b i.2.1) (some ((()),(d,())))
def Qq(m:Nat)(a:qDH):=qC (qdj m a)
def yp:Nat->qDH:=qA λ m a=>qdG m a (Qq m a m)
def qnQ(m:Nat)(a:T):Z51:=
 qb (yA m (re a)) λ c=>cond (qg (ieq c 0)) (some ([],c)) (qb (js m (re a)) λ d=>cond (qg d) (some ([],6)) (qb (yp m [] (re a) 1) λ b=>
 cond (ilt 200 b.2.1.length) (some ([],3)) (some (b.2.1,0))))
def qjb:=qF qnQ
def qfm(m:Nat)(b:qKp)(a:List (T×Int)):Z16:=
 cond (ilt 200 a.length) (some 3) (b a 0)
def qfK(m:Nat)(e:qKp)(b:List (T×Int))(a:Int):Z16:=
 cond (ilt a b.length) (qb (qd b a) λ n=>qb (yA m (re n.1)) λ d=>cond (qg (ieq d 0)) (some d) (qb (qd b a) λ l=>qb (qbR m (re l.1)) λ k=>cond k (some 1)
 (qb (qd b a) λ j=>cond (ieq j.2 0) (some 7) (qb (qd b a) λ i=>cond (ilt i.2 (-1000)) (some 7) (qb (qd b a) λ h=>cond (ilt 1000 h.2) (some 7) (cond (ilt 0 a)
 (qb (qd b (iw .i64 (zX a 1))) λ g=>qb (qd b a) λ f=>qb (zR m (re g.1) (re f.1)) λ c=>cond (ile 0 c) (some 5) (e b (iw .i64 (qf a 1))))
 (e b (iw .i64 (qf a 1))))))))) (some 0)
def Js(m:Nat):=qC (qfK m)
def qdX:Nat->Z54:=qA λ m _=>qfm m (Js m m)
def qcv(m:Nat)(b:qn9)(e:qn6)(d:qn9)(c:qn6)(a:List (T×Int)):Z30:=
 b a 0 []
def qcA(m:Nat)(g:qn9)(e:qn6)(d:qn9)(f:qn6)(a:List (T×Int))(c:Int)(b:TL):Z30:=
 cond (ilt c a.length) (e a c 0 b) (d a 0 b)
def qcw(m:Nat)(e:qn9)(h:qn6)(j:qn9)(i:qn6)(c:List (T×Int))(b d:Int)(a:TL):Z30:=
 qb (qd c b) λ g=>cond (ilt d g.2) (cond (ilt a.length 9) (qb (qd c b) λ f=>cond (zo (List.length a+1) 56) (h c b (iw .i64 (qf d 1)) (a++[re f.1])) none)
 (e c (iw .i64 (qf b 1)) a)) (e c (iw .i64 (qf b 1)) a)
def qcB(m:Nat)(g:qn9)(f:qn6)(e:qn9)(d:qn6)(c:List (T×Int))(b:Int)(a:TL):Z30:=
 cond (ilt b c.length) (d c b 0 a) (some a)
def qcG(m:Nat)(k:qn9)(j:qn6)(e:qn9)(i:qn6)(c:List (T×Int))(b d:Int)(a:TL):Z30:=
 qb (qd c b) λ h=>cond (ilt d (iw .i64 (zX 0 h.2))) (cond (ilt a.length 9) (qb (qd c b) λ g=>qb (yP m [105,110,118] [re g.1]) λ f=>cond (zo (List.length a+1) 56)
 (i c b (iw .i64 (qf d 1)) (a++[re f])) none) (e c (iw .i64 (qf b 1)) a)) (e c (iw .i64 (qf b 1)) a)
def qm(m:Nat):=qC λ a=>(qcA m a.1 a.2.1 a.2.2.1 a.2.2.2,qcw m a.1 a.2.1 a.2.2.1 a.2.2.2,qcB m a.1 a.2.1 a.2.2.1 a.2.2.2,qcG m a.1 a.2.1 a.2.2.1 a.2.2.2)
def qfF:Nat->(Z45->Z30):=qA λ m _=>qcv m (qm m m).1 (qm m m).2.1 (qm m m).2.2.1 (qm m m).2.2.2
def qj9(m:Nat)(i:List (T×Int)):Z37:=
 qb (qdX m i) λ h=>cond (qg (ieq h 0)) (some (T.mk 0 [] 0 [],h)) (qb (qfF m i) λ a=>cond (ilt 8 a.length) (some (T.mk 0 [] 0 [],3))
 (qb (yP m [109,117,108] a) λ g=>let j1:Z37:=(qb (qd a 0) λ e=>qb (yA m (re e)) λ d=>cond (qg (ieq d 0)) (some (T.mk 0 [] 0 [],d)) (some (re e,0)));
 cond (ieq a.length 0) (qb (yP m [111,110,101] []) λ f=>cond (ieq a.length 1) j1 (qb (yA m (re f)) λ c=>cond (qg (ieq c 0)) (some (T.mk 0 [] 0 [],c)) (some (re f,0))))
 (cond (ieq a.length 1) j1 (qb (yA m (re g)) λ b=>cond (qg (ieq b 0)) (some (T.mk 0 [] 0 [],b)) (some (re g,0))))))
def qde:=qF qj9
def qg2(m:Nat)(c:T):Z37:=
 qb (qjb m (re c)) λ a=>cond (qg (ieq a.2 0)) (some (T.mk 0 [] 0 [],a.2)) (qb (qde m a.1) λ b=>some (re b.1,b.2))
def qdV:=qF qg2
def qdo(m:Nat)(b:qKp)(a:List (T×Int)):Z16:=
 b a 0
def qdy(m:Nat)(e:qKp)(a:List (T×Int))(b:Int):Z16:=
 cond (ilt b a.length) (qb (qd a b) λ d=>cond (ilt d.2 (-1000)) (some 7) (qb (qd a b) λ c=>cond (ilt 1000 c.2) (some 7) (e a (iw .i64 (qf b 1))))) (cond (ilt 200 a.length) (some 3)
 (some 0))
def Q8(m:Nat):=qC (qdy m)
def qgG:Nat->Z54:=qA λ m _=>qdo m (Q8 m m)
def qif(m:Nat)(e:qS6)(b a:List (T×Int)):Z51:=
 qb (qdX m b) λ d=>cond (qg (ieq d 0)) (some ([],d)) (qb (qdX m a) λ c=>cond (qg (ieq c 0)) (some ([],c)) (cond (zo (List.length ([]:List (T×Int))+List.length b) 64)
 (qkH b (e a 0 []) λ g f=>e a 0 ([]++(g::f))) none))
def qic(m:Nat)(h:qS6)(b:List (T×Int))(a:Int)(c:List (T×Int)):Z51:=
 cond (ilt a b.length) (qb (qd b a) λ g=>qb (qd b a) λ f=>qb (qjU m c (re g.1) f.2) λ e=>h b (iw .i64 (qf a 1)) e.2.1) (qb (qgG m c) λ d=>
 cond (qg (ieq d 0)) (some ([],d)) (some (c,0)))
def qaR(m:Nat):=qC (qic m)
def qmV:Nat->Z62:=qA λ m _=>qif m (qaR m m)
def qiL(m:Nat)(b l:T):Z37:=
 qb (qjb m (re l)) λ a=>cond (qg (ieq a.2 0)) (some (T.mk 0 [] 0 [],a.2)) (qb (qcp m (re b) [101,120,112]) λ k=>cond k (qb (qd b.kids 1) λ j=>
 qb (qjb m (re j)) λ f=>cond (qg (ieq f.2 0)) (some (T.mk 0 [] 0 [],f.2)) (qb (qmV m f.1 a.1) λ c=>cond (qg (ieq c.2 0)) (some (T.mk 0 [] 0 [],c.2))
 (qb (qd b.kids 0) λ h=>cond (ieq c.1.length 0) (some (re h,0)) (qb (qde m c.1) λ e=>cond (qg (ieq e.2 0)) (some (T.mk 0 [] 0 [],e.2))
 (qb (yP m [101,120,112] [re h,re e.1]) λ i=>some (re i,0)))))) (cond (ieq a.1.length 0) (some (re b,0)) (qb (qde m a.1) λ d=>cond (qg (ieq d.2 0))
 (some (T.mk 0 [] 0 [],d.2)) (qb (yP m [101,120,112] [re b,re d.1]) λ g=>some (re g,0)))))
def qjp:=qF qiL
def qek(m:Nat)(a:Z64)(c:qRf)(b:T):Z37:=
 cond (qg (ieq b.kind 3)) (some (re b,0)) (c 0 b.kind b.name b.sort b.kids 0 [] 0 [] [])
def qem(m:Nat)(a:Z64)(x:qRf)(f t:Int)(b:Y8)(s:Int)(e:TL)(r:Int)(q:Y8)(p:Int)(o c:TL):Z37:=
 cond (ilt f e.length) (qb (qd e f) λ w=>qb (a (re w)) λ h=>cond (qg (ieq h.2 0)) (some (T.mk 0 [] 0 [],h.2)) (cond (zo (List.length c+1) 56)
 (x (iw .i64 (qf f 1)) t b s e r q p o (c++[re h.1])) none)) (qb (yP m b c) λ g=>qb (qdC m b) λ v=>cond (ieq v 3) (qb (qgK m (re g)) λ u=>
 some (re u.1,0)) (cond (qu b [120,111,114]) (qb (qnC m c) λ n=>some (re n.1,n.2)) (let k:Z37:=(qb (qdV m (re g)) λ l=>some (re l.1,l.2));
 cond (qu b [109,117,108]) k (cond (qu b [105,110,118]) k (cond (qu b [111,110,101]) k (cond (qu b [101,120,112]) (qb (qd c 0) λ j=>qb (qd c 1) λ i=>
 qb (qjp m (re j) (re i)) λ d=>some (re d.1,d.2)) (some (re g,0))))))))
def JO(m:Nat)(a:Z64):=qC (qem m a)
def jq:Nat->Z64:=qA λ m a=>qek m a (JO m a m)
def qhB(m:Nat)(d:T):Z37:=
 qb (qci m (re d)) λ c=>cond (qg (ieq c 0)) (some (T.mk 0 [] 0 [],c)) (qb (jq m (re d)) λ a=>cond (qg (ieq a.2 0)) (some (T.mk 0 [] 0 [],a.2))
 (qb (yA m (re a.1)) λ b=>cond (qg (ieq b 0)) (some (T.mk 0 [] 0 [],b)) (some (re a.1,0))))
def qh1:=qF qhB
def qfE(m:Nat)(e:qJ8)(a:T):Z2:=
 qb (qh1 m (re a)) λ b=>cond (qg (ieq b.2 0)) (some false) (qb (ja m (re a) (re b.1)) λ d=>cond (qg d) (some false) (qb (j8 m (re a)) λ c=>e c 0))
def qfB(m:Nat)(c:qJ8)(b:TL)(a:Int):Z2:=
 cond (ilt a b.length) (qb (qd b a) λ f=>cond (ieq f.kind 3) (qb (qd b a) λ e=>qb (qdC m e.name) λ d=>cond (ieq d 3) (some false) (c b (iw .i64 (qf a 1))))
 (c b (iw .i64 (qf a 1)))) (some true)
def qaq(m:Nat):=qC (qfB m)
def qjn:Nat->Z42:=qA λ m _=>qfE m (qaq m m)
def qh4(m:Nat)(b:Y8):Z67:=
 qb (qW m b 0) λ a=>cond (qg a.2.2) (some (T.mk 0 [] 0 [],a.2.1,2)) (cond (qg (ieq a.2.1 b.length)) (some (T.mk 0 [] 0 [],a.2.1,2)) (qb (jc m (re a.1)) λ f=>
 cond (ilt 400 f) (some (T.mk 0 [] 0 [],0,3)) (qb (jv m (re a.1)) λ e=>cond (ilt 40 e) (some (T.mk 0 [] 0 [],0,3)) (qb (qci m (re a.1)) λ d=>cond (qg (ieq d 0))
 (some (T.mk 0 [] 0 [],0,10)) (qb (qjn m (re a.1)) λ c=>cond (qg c) (some (T.mk 0 [] 0 [],0,10)) (some (re a.1,0,0)))))))
def qhO:=qF qh4
def qeL(m:Nat)(a:Y8):Z2:=
 cond (qu a [120,111,114]) (some true) (cond (qu a [122,101,114,111]) (some true) (cond (qu a [101,120,112]) (some true) (cond (qu a [109,117,108]) (some true) (cond (qu a [105,110,118])
 (some true) (some (qu a [111,110,101]))))))
def qea:=qF qeL
def qgz(m:Nat)(d:qJ8)(a:T):Z2:=
 qb (qci m (re a)) λ c=>cond (qg (ieq c 0)) (some false) (qb (j8 m (re a)) λ b=>d b 0)
def qgH(m:Nat)(c:qJ8)(b:TL)(a:Int):Z2:=
 cond (ilt a b.length) (qb (qd b a) λ h=>cond (ieq h.kind 3) (qb (qd b a) λ g=>qb (qea m g.name) λ f=>cond f (some false) (qb (qd b a) λ e=>
 qb (qdC m e.name) λ d=>cond (ieq d 3) (some false) (c b (iw .i64 (qf a 1))))) (c b (iw .i64 (qf a 1)))) (some true)
def qbn(m:Nat):=qC (qgH m)
def qkT:Nat->Z42:=qA λ m _=>qgz m (qbn m m)
def qg1(m:Nat)(b:T):Z16:=
 qb (qci m (re b)) λ a=>cond (qg (ieq a 0)) (some a) (qb (qkT m (re b)) λ c=>cond (qg c) (some 10) (some 0))
def qgJ:=qF qg1
def qit(m:Nat)(b:qIO)(a:TL):Z30:=
 b a [] 0
def qhy(m:Nat)(f:qIO)(b c:TL)(a:Int):Z30:=
 cond (ilt a b.length) (qb (qd b a) λ e=>qb (qjR m c (re e)) λ d=>f b d (iw .i64 (qf a 1))) (some c)
def qcf(m:Nat):=qC (qhy m)
def qmR:Nat->Z39:=qA λ m _=>qit m (qcf m m)
def qgn(m:Nat)(d:qS8)(c:T)(b:Int):Z30:=
 qb (j8 m (re c)) λ a=>d b a 0 []
def qgy(m:Nat)(e:qS8)(d:Int)(b:TL)(a:Int)(c:TL):Z30:=
 cond (ilt a b.length) (qb (qd b a) λ h=>cond (ieq h.kind d) (qb (qd b a) λ g=>cond (zo (List.length c+1) 56) (e d b (iw .i64 (qf a 1)) (c++[re g])) none)
 (e d b (iw .i64 (qf a 1)) c)) (qb (qmR m c) λ f=>some f)
def qa5(m:Nat):=qC (qgy m)
def qle:Nat->(T->Int->Z30):=qA λ m _=>qgn m (qa5 m m)
def qkj(m:Nat)(b:T):Z30:=
 qb (qle m (re b) 1) λ a=>some a
def qkL:=qF qkj
def qj3(m:Nat)(d c:T):Z16:=
 qb (yA m (re d)) λ a=>cond (qg (ieq a 0)) (some a) (qb (yA m (re c)) λ b=>some b)
def qpP:=qF qj3
def qka(m:Nat)(b a:T):Z2:=
 cond (ieq b.sort 0) (some true) (cond (qg (ieq a.kind 3)) (some (ieq a.sort b.sort)) (some false))
def qkN:=qF qka
def qkh(m:Nat)(b a:T):Z2:=
 cond (ieq b.kind 3) (cond (ieq a.kind 3) (cond (qu b.name a.name) (some (ieq b.kids.length a.kids.length)) (some false)) (some false)) (some false)
def qkW:=qF qkh
def qfw(m:Nat)(a:qKf)(h:qRT)(b c:T)(d:List (T×T)):qJh:=
 cond (ieq b.kind 1) (cond (zo (List.length d+1) 112) (qb (qkN m (re b) (re c)) λ g=>some ((()),(d++[(re b,re c)],g,()))) none) (cond (ieq b.kind 2) (qb (ja m (re b)
 (re c)) λ f=>some ((()),(d,f,()))) (qb (qkW m (re b) (re c)) λ e=>cond (qg e) (some ((()),(d,false,()))) (h true 0 b.kind b.name b.sort b.kids c.kind c.name c.sort c.kids d)))
def qc8(m:Nat)(a:qKf)(q:qRT)(e:Bool)(c n:Int)(l:Y8)(k:Int)(d:TL)(j:Int)(i:Y8)(h:Int)(f:TL)(b:List (T×T)):qJh:=
 cond (ilt c d.length) (cond e (qb (qd d c) λ p=>qb (qd f c) λ o=>qb (a (re p) (re o) b) λ g=>q g.2.2.1 (iw .i64 (qf c 1)) n l k d j i h f g.2.1)
 (some ((()),(b,e,())))) (some ((()),(b,e,())))
def qaw(m:Nat)(a:qKf):=qC (qc8 m a)
def jP:Nat->qKf:=qA λ m a=>qfw m a (qaw m a m)
def qfy(m:Nat)(e:qFC)(h:qDy)(g:qDj)(f:qFY)(a d:T):qcO:=
 qb (qpP m (re a) (re d)) λ c=>cond (qg (ieq c 0)) (some ([],c)) (qb (jP m (re a) (re d) []) λ b=>cond (qg b.2.2.1) (some ([],11))
 (e 0 a.kind a.name a.sort a.kids b.2.1))
def qfg(m:Nat)(k:qFC)(i:qDy)(h:qDj)(j:qFY)(f e:Int)(d:Y8)(c:Int)(b:TL)(a:List (T×T)):qcO:=
 cond (ilt f a.length) (i f 0 e d c b a) (qb (qkL m (T.mk e d c b)) λ g=>h g 0 a [])
def qcV(m:Nat)(p:qFC)(h:qDy)(r:qDj)(q:qFY)(b c g:Int)(f:Y8)(e:Int)(d:TL)(a:List (T×T)):qcO:=
 cond (ilt c b) (qb (qd a b) λ o=>qb (qd a c) λ n=>qb (ja m (re o.1) (re n.1)) λ l=>cond l (qb (qd a b) λ k=>qb (qd a c) λ j=>
 qb (ja m (re k.2) (re j.2)) λ i=>cond (qg i) (some ([],11)) (h b (iw .i64 (qf c 1)) g f e d a)) (h b (iw .i64 (qf c 1)) g f e d a)) (p (iw .i64 (qf b 1)) g f e d a)
def qfL(m:Nat)(h:qFC)(g:qDy)(f:qDj)(e:qFY)(c:TL)(b:Int)(d a:List (T×T)):qcO:=
 cond (ilt b c.length) (e c b 0 d a) (some (a,0))
def qfv(m:Nat)(r:qFC)(q:qDy)(f:qDj)(p:qFY)(c:TL)(b e:Int)(a d:List (T×T)):qcO:=
 cond (ilt e a.length) (qb (qd a e) λ o=>qb (qd c b) λ n=>qb (ja m (re o.1) (re n)) λ l=>cond l (qb (qd a e) λ k=>qb (qd c b) λ j=>
 qb (ja m (re k.2) (re j)) λ i=>cond (qg i) (qb (qd c b) λ h=>qb (qd a e) λ g=>cond (zo (List.length d+1) 112)
 (f c (iw .i64 (qf b 1)) a (d++[(re h,re g.2)])) none) (f c (iw .i64 (qf b 1)) a d)) (p c b (iw .i64 (qf e 1)) a d)) (f c (iw .i64 (qf b 1)) a d)
def ql(m:Nat):=qC λ a=>(qfg m a.1 a.2.1 a.2.2.1 a.2.2.2,qcV m a.1 a.2.1 a.2.2.1 a.2.2.2,qfL m a.1 a.2.1 a.2.2.1 a.2.2.2,qfv m a.1 a.2.1 a.2.2.1 a.2.2.2)
def qjm:Nat->qSf:=qA λ m _=>qfy m (ql m m).1 (ql m m).2.1 (ql m m).2.2.1 (ql m m).2.2.2
def qdN(m:Nat)(d:T)(e:Y8):qcO:=
 qb (qgJ m (re d)) λ c=>cond (qg (ieq c 0)) (some ([],c)) (qb (qhO m e) λ a=>cond (qg (ieq a.2.2 0)) (some ([],a.2.2)) (qb (qjm m (re d) (re a.1)) λ b=>
 some (b.1,b.2)))
def qkQ:=qF qdN
def qae(m:Nat)(c:qSR)(b a:List (T×T)):Z2:=
 cond (qg (ieq b.length a.length)) (some false) (c b a 0)
def qai(m:Nat)(j:qSR)(b c:List (T×T))(a:Int):Z2:=
 cond (ilt a b.length) (qb (qd b a) λ i=>qb (qd c a) λ h=>qb (ja m (re i.1) (re h.1)) λ g=>cond (qg g) (some false) (qb (qd b a) λ f=>
 qb (qd c a) λ e=>qb (ja m (re f.2) (re e.2)) λ d=>cond (qg d) (some false) (j b c (iw .i64 (qf a 1))))) (some true)
def jB(m:Nat):=qC (qai m)
def qbX:Nat->(Z80->Z80->Z2):=qA λ m _=>qae m (jB m m)
def qc3(m:Nat)(b:T)(a:Y8):Z2:=
 qb (qgf m) λ h=>let j1:Z2:=(qb (qgf m) λ g=>some g);cond (qg h) j1 (qb (qnA m [re b]) λ f=>
 cond (qg f) j1 (cond (ilt 2000 a.length) j1 (qb (qgk m (re b) a) λ d=>qb (qkQ m (re b) a) λ c=>cond (ieq d.2 c.2) (qb (qbX m d.1 c.1) λ e=>some e)
 (some false))))
def law20_EnvelopeFits:=qF qc3
end
end Go.AmZ
namespace Go.AmZ
open Go Go.GxZ
def Ev{α:Type}(F:Nat->Nat->Option α)(r:α):Prop:=∃B,∀m k,B<=m->B<=k->F m k=some r
section
variable {α β:Type}{F G:Nat->Nat->Option α}{r:α}
theorem Ev.pure(r:α):Ev (λ _ _=>some r) r:=⟨0,λ _ _ _ _=>rfl⟩
theorem Ev.ret{r a:α}(h:r=a):Ev (λ _ _=>some r) a:=by subst h;exact .pure r
theorem Ev.bind{X:Nat->Nat->Option β}{K:Nat->Nat->β->Option α}{a:β}(h:Ev X a)(g:Ev (λ m k=>K m k a) r):Ev (λ m k=>qb (X m k) (K m k)) r:=by
 let⟨B,h⟩:=h;let⟨C,g⟩:=g;refine⟨max B C,λ m k b c=>?_⟩;simp only[h m k (by omega) (by omega),qb];exact g m k (by omega) (by omega)
theorem Ev.congr(h:Ev F r)(e:∀m k,G m k=F m k):Ev G r:=by
 let⟨B,h⟩:=h;exact⟨B,λ m k a b=>(e m k).trans (h m k a b)⟩
theorem Ev.res{a:α}(h:Ev F r)(e:r=a):Ev F a:=by subst e;exact h
theorem Ev.succ{f:Nat->Option α}(h:Ev (λ m _=>f (m+1)) r):Ev (λ m _=>f m) r:=by
 let⟨B,h⟩:=h;refine⟨B+1,λ m k a b=>?_⟩;obtain⟨m,rfl⟩:∃n,m=n+1:=⟨m-1,by omega⟩
 exact h m B (by omega) (wa _)
theorem Ev.loop{L:Nat->Nat->Option α}(h:Ev (λ m k=>L m (k+1)) r):Ev (λ m k=>L m k) r:=by
 let⟨B,h⟩:=h;refine⟨B+1,λ m k a b=>?_⟩;obtain⟨k,rfl⟩:∃n,k=n+1:=⟨k-1,by omega⟩
 exact h m k (by omega) (by omega)
theorem Ev.diag{L:Nat->Nat->Option α}(h:Ev L r):Ev (λ m _=>L m m) r:=by
 let⟨B,h⟩:=h;exact⟨B,λ m k a _=>h m m a a⟩
theorem Ev.ct{b:Bool}(a:b=true)(h:Ev F r):Ev (λ m k=>cond b (F m k) (G m k)) r:=by subst a;exact h
theorem Ev.cf{b:Bool}(a:b=false)(h:Ev G r):Ev (λ m k=>cond b (F m k) (G m k)) r:=by subst a;exact h
theorem Ev.ite{b:Bool}(h:b=true->Ev F r)(g:b=false->Ev G r):Ev (λ m k=>cond b (F m k) (G m k)) r:=by
 cases b with
 |true=>exact h rfl
 |false=>exact g rfl
theorem Ev.some{x:Option β}{K:Nat->Nat->β->Option α}{a:β}(b:x=some a)(g:Ev (λ m k=>K m k a) r):Ev (λ m k=>qb x (K m k)) r:=by subst b;exact g
theorem Ev.case{l:List β}{K:Nat->Nat->β->List β->Option α}(h:l=[]->Ev F r)(g:∀x t,l=x::t->Ev (λ m k=>K m k x t) r):Ev (λ m k=>qkH l (F m k) (K m k)) r:=by
 cases l with
 |nil=>exact h rfl
 |cons x t=>exact g x t rfl
theorem Ev.get{x:Option α}(h:Ev (λ _ _=>x) r):x=Option.some r:=by
 let⟨B,h⟩:=h;exact h B B (wa _) (wa _)
end
theorem qw{a b:Int}:ilt a b=true↔a<b:=by unfold ilt;exact decide_eq_true_iff
theorem qx{a b:Int}:ilt a b=false↔b<=a:=by unfold ilt;rw[decide_eq_false_iff_not];omega
theorem qaF{a b:Int}:ile a b=true↔a<=b:=by unfold ile;exact decide_eq_true_iff
theorem JR{a b:Int}:ile a b=false↔b<a:=by unfold ile;rw[decide_eq_false_iff_not];omega
theorem qk{a b:Int}:ieq a b=true↔a=b:=by unfold ieq;exact beq_iff_eq
theorem qh{a b:Int}:ieq a b=false↔a≠b:=by unfold ieq;exact beq_eq_false_iff_ne
theorem bnt{b:Bool}:qg b=true↔b=false:=by cases b<;>simp[qg]
theorem bnf{b:Bool}:qg b=false↔b=true:=by cases b<;>simp[qg]
theorem zM{a b:List UInt8}:qu a b=true↔a=b:=by unfold qu;exact beq_iff_eq
theorem ye{a b:List UInt8}:qu a b=false↔a≠b:=by unfold qu;exact beq_eq_false_iff_ne
theorem jN{n:Int}(h:-9223372036854775808<=n/\n<=9223372036854775807):iw .i64 n=n:=IntWalk.i64_in n h
theorem qeF(a b:Nat):qf (a:Int) (b:Int)=((a+b:Nat):Int):=by unfold qf;omega
theorem zd{n b:Nat}(h:n*b<=2^47)(a:0<b):zo n b=true:=by
 unfold zo;rw[decide_eq_true_iff];refine⟨h,?_⟩;have:n*1<=n*b:=vU _ a;omega
theorem zF{α:Type}(l:List α)(i:Nat):qd l (i:Int)=l[i]?:=by
 unfold qd;rw[if_pos (by omega),kL]
theorem J3{α:Type}(l:List α):qd l 0=l[0]?:=zF l 0
theorem qt{α:Type}{P:Nat->Prop}(l:List α)(g:l.length<2^62)(e:ilt (l.length:Int) (l.length:Int)=false->P l.length)
  (b:∀(i:Nat) (x:α),l[i]?=some x->l.drop i=x::l.drop (i+1)->ilt (i:Int) (l.length:Int)=true->qd l (i:Int)=some x->iw .i64 (qf (i:Int) 1)=((i+1:Nat):Int)->P (i+1)->P i):∀i,i<=l.length->P i:=by
 intro i h;obtain⟨d,j⟩:∃d,l.length=i+d:=⟨l.length-i,by omega⟩
 induction d generalizing i with
 |zero=>
   have:i=l.length:=by omega
   subst this;exact e (qx.2 (vC _))
 |succ d f=>
   have c:i<l.length:=by omega
   have a:=List.getElem?_eq_getElem c;refine b i _ a (xL c) (qw.2 (by omega)) (by rw[zF,a]) ?_ (f (i+1) (by omega) (by omega));rw[show qf (i:Int) 1=((i+1:Nat):Int) by unfold qf;omega,jN (by omega)]
abbrev way:=@Ev.bind
abbrev waz:=@Ev.pure
abbrev waA:=@Ev.some
abbrev waB:=@Ev.ite
abbrev waC:=@Ev.ct
abbrev waD:=@Ev.cf
abbrev waE:=@Ev.ret
abbrev waF:=@Ev.loop
abbrev waG:=@Ev.succ
abbrev waH:=@Ev.diag
abbrev waN:=@Ev.congr
end Go.AmZ
namespace Go.AmZ
open Go Go.GxZ
set_option linter.unusedVariables false
theorem qrV(m):yv (m+1)=qd9 m:=rfl
theorem qkX(m):yG (m+1)=qal m:=rfl
theorem qnS(m):zh (m+1)=qbI m:=rfl
theorem qnP(m):Jl (m+1)=JD m (yl m m):=rfl
theorem qbK(m k):(yl m (k+1))=Qn m (yl m k):=rfl
theorem qcs(m):qy (m+1)=Qk m:=rfl
theorem qnL(m):jA (m+1)=qpz (qy m) m:=rfl
theorem qG1(m):qjH (m+1)=qlT m:=rfl
theorem qBI(m):qdY (m+1)=qft m (QA m m):=rfl
theorem qo1(m k):(QA m (k+1))=qfS m (QA m k):=rfl
theorem qGh(m):yi (m+1)=qgD m (yi m) (jK m (yi m) m):=rfl
theorem qqM(m k):(jK m (yi m) (k+1))=qgx m (yi m) (jK m (yi m) k):=rfl
theorem qEW(m):zj (m+1)=qj5 m:=rfl
theorem qxa(m):qbQ (m+1)=qdJ m (Jd m m):=rfl
theorem qls(m k):(Jd m (k+1))=qdv m (Jd m k):=rfl
theorem qyH(m):qN (m+1)=qeq m (qN m) (zf m (qN m) m).1 (zf m (qN m) m).2:=rfl
theorem qm1(m k):(zf m (qN m) (k+1)).1=qec m (qN m) (zf m (qN m) k).1 (zf m (qN m) k).2:=rfl
theorem qni(m k):(zf m (qN m) (k+1)).2=qey m (qN m) (zf m (qN m) k).1 (zf m (qN m) k).2:=rfl
theorem qzX(m):qa6 (m+1)=qhJ m:=rfl
theorem qHa(m):qeH (m+1)=qlx m:=rfl
theorem qGY(m):Qt (m+1)=qhU m (Qt m) (qcr m (Qt m) m):=rfl
theorem qsv(m k):(qcr m (Qt m) (k+1))=qhw m (Qt m) (qcr m (Qt m) k):=rfl
theorem qzY(m):qz (m+1)=qeA m (qz m) (Qj m (qz m) m):=rfl
theorem qhr(m k):(Qj m (qz m) (k+1))=qb0 m (qz m) (Qj m (qz m) k):=rfl
theorem qBB(m):JZ (m+1)=qi4 m:=rfl
theorem qG5(m):jy (m+1)=qlP m:=rfl
theorem quV(m):qc7 (m+1)=qf5 m:=rfl
theorem qf9(m):zV (m+1)=jh m (qn m m).1 (qn m m).2:=rfl
theorem qax(m k):(qn m (k+1)).1=jd m (qn m k).1 (qn m k).2:=rfl
theorem qaC(m k):(qn m (k+1)).2=jg m (qn m k).1 (qn m k).2:=rfl
theorem qGR(m):qm6 (m+1)=qhx m (qck m m):=rfl
theorem qsk(m k):(qck m (k+1))=qir m (qck m k):=rfl
theorem qJi(m):qmf (m+1)=qjs m (qdl m m):=rfl
theorem qt9(m k):(qdl m (k+1))=qju m (qdl m k):=rfl
theorem qyx(m):yN (m+1)=qee m (yN m) (QR m (yN m) m):=rfl
theorem qm7(m k):(QR m (yN m) (k+1))=qen m (yN m) (QR m (yN m) k):=rfl
theorem qD8(m):jG (m+1)=qgE m (jG m) (qbo m (jG m) m):=rfl
theorem qqI(m k):(qbo m (jG m) (k+1))=qgq m (jG m) (qbo m (jG m) k):=rfl
theorem qAh(m):qhG (m+1)=qeg m (qaX m m):=rfl
theorem qxt(m k):(qaX m (k+1))=qip m (qaX m k):=rfl
theorem qLR(m):qad (m+1)=qkJ m (qad m) (qe4 m (qad m) m):=rfl
theorem qwL(m k):(qe4 m (qad m) (k+1))=qkG m (qad m) (qe4 m (qad m) k):=rfl
theorem qLh(m):qti (m+1)=qkI m (qfc m m):=rfl
theorem qxd(m k):(qfc m (k+1))=qkM m (qfc m k):=rfl
theorem qtH(m):qbT (m+1)=qeN m:=rfl
theorem quN(m):zC (m+1)=qcy m (zC m) (QJ m (zC m) m):=rfl
theorem qky(m k):(QJ m (zC m) (k+1))=qcz m (zC m) (QJ m (zC m) k):=rfl
theorem qq9(m):qaA (m+1)=qdh m:=rfl
theorem Q5(m):qP (m+1)=qJ m (qr m m):=rfl
theorem yB(m k):(qr m (k+1))=qI m (qr m k):=rfl
theorem qtL(m):qb3 (m+1)=qe6 m:=rfl
theorem qrQ(m):zw (m+1)=qbz m (zw m) (jx m (zw m) m):=rfl
theorem qiB(m k):(jx m (zw m) (k+1))=qbs m (zw m) (jx m (zw m) k):=rfl
theorem qCi(m):qch (m+1)=qiD m:=rfl
theorem quy(m):qaV (m+1)=qcH m (j7 m m):=rfl
theorem qkm(m k):(j7 m (k+1))=qcE m (j7 m k):=rfl
theorem qwo(m):Jt (m+1)=qdI m (qD m m).1 (qD m m).2.1 (qD m m).2.2:=rfl
theorem ql2(m k):(qD m (k+1)).1=qdK m (qD m k).1 (qD m k).2.1 (qD m k).2.2:=rfl
theorem qmx(m k):(qD m (k+1)).2.1=qdm m (qD m k).1 (qD m k).2.1 (qD m k).2.2:=rfl
theorem qmm(m k):(qD m (k+1)).2.2=qdk m (qD m k).1 (qD m k).2.1 (qD m k).2.2:=rfl
theorem qtM(m):qeu (m+1)=qb9 m (Qo m m):=rfl
theorem qjL(m k):(Qo m (k+1))=qbZ m (Qo m k):=rfl
theorem qq4(m):qct (m+1)=qdE m:=rfl
theorem qb2(m):zZ (m+1)=zK m (qH m m):=rfl
theorem yE(m k):(qH m (k+1))=qX m (qH m k):=rfl
theorem qbh(m):zN (m+1)=yo m:=rfl
theorem qt0(m):qev (m+1)=qe3 m:=rfl
theorem qzO(m):qiq (m+1)=qej m (JF m m):=rfl
theorem qnc(m k):(JF m (k+1))=qet m (JF m k):=rfl
theorem qy5(m):qht (m+1)=qhK m:=rfl
theorem qv6(m):yH (m+1)=qdf m (yH m) (Ji m (yH m) m):=rfl
theorem qmv(m k):(Ji m (yH m) (k+1))=qds m (yH m) (Ji m (yH m) k):=rfl
theorem qwQ(m):qgm (m+1)=qgR m:=rfl
theorem qve(m):qfC (m+1)=qf1 m:=rfl
theorem qpL(m):zc (m+1)=qaj m (zc m) (yM m (zc m) m):=rfl
theorem qhm(m k):(yM m (zc m) (k+1))=qah m (zc m) (yM m (zc m) k):=rfl
theorem qy1(m):qe2 (m+1)=qih m:=rfl
theorem qtG(m):qaf (m+1)=qeT m:=rfl
theorem qnN(m):qaM (m+1)=qbD m:=rfl
theorem qqZ(m):zA (m+1)=qaH m (zA m) (jR m (zA m) m):=rfl
theorem qh0(m k):(jR m (zA m) (k+1))=qaN m (zA m) (jR m (zA m) k):=rfl
theorem qdb(m):q9 (m+1)=qqf (qz m):=rfl
theorem quI(m):ji (m+1)=qf4 m:=rfl
theorem qca(m):qM (m+1)=qwC (ji m):=rfl
theorem qAj(m):qma (m+1)=qex m (JK m m):=rfl
theorem qmS(m k):(JK m (k+1))=qer m (JK m k):=rfl
theorem qCq(m):qnR (m+1)=qja m:=rfl
theorem qGL(m):qjG (m+1)=qml m:=rfl
theorem qyi(m):qgv (m+1)=qgQ m:=rfl
theorem qoX(m):qV (m+1)=JW m (qV m) (yy m (qV m) m):=rfl
theorem qga(m k):(yy m (qV m) (k+1))=JY m (qV m) (yy m (qV m) k):=rfl
theorem qB3(m):qjf (m+1)=qiZ m:=rfl
theorem qsF(m):qa4 (m+1)=qd8 m:=rfl
theorem qB7(m):qjl (m+1)=qiF m:=rfl
theorem qE5(m):qaK (m+1)=qjY m:=rfl
theorem qEq(m):qfU (m+1)=qkf m:=rfl
theorem qCs(m):qgd (m+1)=qiP m:=rfl
theorem qGK(m):yP (m+1)=qlz m:=rfl
theorem qzP(m):jl (m+1)=qef m (jl m) (JN m (jl m) m):=rfl
theorem qm5(m k):(JN m (jl m) (k+1))=qeB m (jl m) (JN m (jl m) k):=rfl
theorem qGP(m):qnr (m+1)=qh6 m (qcj m m):=rfl
theorem qrm(m k):(qcj m (k+1))=qil m (qcj m k):=rfl
theorem qG8(m):qnA (m+1)=qmp m:=rfl
theorem qCC(m):Qa (m+1)=qfp m (Qa m) (qbM m (Qa m) m):=rfl
theorem qoR(m k):(qbM m (Qa m) (k+1))=qfN m (Qa m) (qbM m (Qa m) k):=rfl
theorem qBH(m):qjt (m+1)=qfG m (qbN m m):=rfl
theorem qoH(m k):(qbN m (k+1))=qfM m (qbN m k):=rfl
theorem qhT(m):qgk (m+1)=qaZ m:=rfl
theorem qAd(m):qe1 (m+1)=qhP m:=rfl
theorem qCe(m):qjo (m+1)=qiU m:=rfl
theorem qz5(m):J2 (m+1)=qeb m (JI m m):=rfl
theorem qm4(m k):(JI m (k+1))=qew m (JI m k):=rfl
theorem qlZ(m):qdz (m+1)=qbP m (jL m m):=rfl
theorem qqP(m k):(jL m (k+1))=qgu m (jL m k):=rfl
theorem qwK(m):qgt (m+1)=qgZ m:=rfl
theorem qEp(m):qdx (m+1)=qgi m (qbd m m):=rfl
theorem qCF(m k):(qbd m (k+1))=qj6 m (qbd m k):=rfl
theorem qii(m):qW (m+1)=qam m (qW m) (Qw m (qW m) m):=rfl
theorem qj8(m k):(Qw m (qW m) (k+1))=qdL m (qW m) (Qw m (qW m) k):=rfl
theorem qGo(m):jc (m+1)=qgw m (jc m) (qbp m (jc m) m):=rfl
theorem qqU(m k):(qbp m (jc m) (k+1))=qgI m (jc m) (qbp m (jc m) k):=rfl
theorem qBZ(m):jv (m+1)=qfd m (jv m) (qau m (jv m) m):=rfl
theorem qos(m k):(qau m (jv m) (k+1))=qfR m (jv m) (qau m (jv m) k):=rfl
theorem qDG(m):qk7 (m+1)=qkg m:=rfl
theorem qBW(m):jO (m+1)=qfz m (jO m) (qar m (jO m) m):=rfl
theorem qou(m k):(qar m (jO m) (k+1))=qfj m (jO m) (qar m (jO m) k):=rfl
theorem qCA(m):yA (m+1)=qi5 m:=rfl
theorem qDb(m):qdC (m+1)=qgl m (qa3 m m):=rfl
theorem qqL(m k):(qa3 m (k+1))=qgC m (qa3 m k):=rfl
theorem qFP(m):qk5 (m+1)=qgj m (qa0 m m):=rfl
theorem qqK(m k):(qa0 m (k+1))=qgr m (qa0 m k):=rfl
theorem qzT(m):qid (m+1)=qep m (JH m m):=rfl
theorem qnB(m k):(JH m (k+1))=qei m (JH m k):=rfl
theorem qB9(m):jr (m+1)=qff m (jr m) (Jp m (jr m) m):=rfl
theorem qoa(m k):(Jp m (jr m) (k+1))=qfk m (jr m) (Jp m (jr m) k):=rfl
theorem qBA(m):qci (m+1)=qiH m:=rfl
theorem qzG(m):qbk (m+1)=qhq m:=rfl
theorem qyl(m):zR (m+1)=qdg m (zR m) (Je m (zR m) m):=rfl
theorem qmr(m k):(Je m (zR m) (k+1))=qdn m (zR m) (Je m (zR m) k):=rfl
theorem qDD(m):ja (m+1)=qj4 m:=rfl
theorem qGO(m):j8 (m+1)=qh5 m (j8 m) (qce m (j8 m) m):=rfl
theorem qrT(m k):(qce m (j8 m) (k+1))=qhz m (j8 m) (qce m (j8 m) k):=rfl
theorem qJr(m):qcp (m+1)=qnK m:=rfl
theorem qxY(m):qgK (m+1)=qgO m:=rfl
theorem qCJ(m):qje (m+1)=qfx m (qat m m):=rfl
theorem qop(m k):(qat m (k+1))=qfV m (qat m k):=rfl
theorem qGr(m):qkP (m+1)=qjX m:=rfl
theorem qG2(m):qjR (m+1)=qim m (qcl m m):=rfl
theorem qrw(m k):(qcl m (k+1))=qis m (qcl m k):=rfl
theorem qGZ(m):qno (m+1)=qia m (qcm m m):=rfl
theorem qr8(m k):(qcm m (k+1))=qhF m (qcm m k):=rfl
theorem qyz(m):qhu (m+1)=qel m (JL m m):=rfl
theorem qmG(m k):(JL m (k+1))=qes m (JL m k):=rfl
theorem qES(m):qig (m+1)=qgp m (J1 m m):=rfl
theorem qqJ(m k):(J1 m (k+1))=qgo m (J1 m k):=rfl
theorem qvb(m):ya (m+1)=qcF m (ya m) (jZ m (ya m) m):=rfl
theorem qkt(m k):(jZ m (ya m) (k+1))=qcC m (ya m) (jZ m (ya m) k):=rfl
theorem qDw(m):qk4 (m+1)=qjZ m:=rfl
theorem qGw(m):qnC (m+1)=qib m (qcg m m):=rfl
theorem qrI(m k):(qcg m (k+1))=qhv m (qcg m k):=rfl
theorem qxy(m):qbR (m+1)=qgS m:=rfl
theorem qBE(m):js (m+1)=qfi m (js m) (Jq m (js m) m):=rfl
theorem qoU(m k):(Jq m (js m) (k+1))=qfT m (js m) (Jq m (js m) k):=rfl
theorem qGA(m):qjU (m+1)=qhH m (JP m m):=rfl
theorem qrS(m k):(JP m (k+1))=qhC m (JP m k):=rfl
theorem qxp(m):yp (m+1)=qdG m (yp m) (Qq m (yp m) m):=rfl
theorem ql8(m k):(Qq m (yp m) (k+1))=qdj m (yp m) (Qq m (yp m) k):=rfl
theorem qJK(m):qjb (m+1)=qnQ m:=rfl
theorem qB4(m):qdX (m+1)=qfm m (Js m m):=rfl
theorem qoY(m k):(Js m (k+1))=qfK m (Js m k):=rfl
theorem qut(m):qfF (m+1)=qcv m (qm m m).1 (qm m m).2.1 (qm m m).2.2.1 (qm m m).2.2.2:=rfl
theorem qkr(m k):(qm m (k+1)).1=qcA m (qm m k).1 (qm m k).2.1 (qm m k).2.2.1 (qm m k).2.2.2:=rfl
theorem qkz(m k):(qm m (k+1)).2.1=qcw m (qm m k).1 (qm m k).2.1 (qm m k).2.2.1 (qm m k).2.2.2:=rfl
theorem qks(m k):(qm m (k+1)).2.2.1=qcB m (qm m k).1 (qm m k).2.1 (qm m k).2.2.1 (qm m k).2.2.2:=rfl
theorem qkp(m k):(qm m (k+1)).2.2.2=qcG m (qm m k).1 (qm m k).2.1 (qm m k).2.2.1 (qm m k).2.2.2:=rfl
theorem qDr(m):qde (m+1)=qj9 m:=rfl
theorem qw3(m):qdV (m+1)=qg2 m:=rfl
theorem qxT(m):qgG (m+1)=qdo m (Q8 m m):=rfl
theorem qlr(m k):(Q8 m (k+1))=qdy m (Q8 m k):=rfl
theorem qHc(m):qmV (m+1)=qif m (qaR m m):=rfl
theorem qso(m k):(qaR m (k+1))=qic m (qaR m k):=rfl
theorem qBL(m):qjp (m+1)=qiL m:=rfl
theorem qze(m):jq (m+1)=qek m (jq m) (JO m (jq m) m):=rfl
theorem qnm(m k):(JO m (jq m) (k+1))=qem m (jq m) (JO m (jq m) k):=rfl
theorem qyX(m):qh1 (m+1)=qhB m:=rfl
theorem qCg(m):qjn (m+1)=qfE m (qaq m m):=rfl
theorem qow(m k):(qaq m (k+1))=qfB m (qaq m k):=rfl
theorem qzF(m):qhO (m+1)=qh4 m:=rfl
theorem qtZ(m):qea (m+1)=qeL m:=rfl
theorem qFd(m):qkT (m+1)=qgz m (qbn m m):=rfl
theorem qqQ(m k):(qbn m (k+1))=qgH m (qbn m k):=rfl
theorem qwh(m):qgJ (m+1)=qg1 m:=rfl
theorem qGM(m):qmR (m+1)=qit m (qcf m m):=rfl
theorem qrF(m k):(qcf m (k+1))=qhy m (qcf m k):=rfl
theorem qFr(m):qle (m+1)=qgn m (qa5 m m):=rfl
theorem qqT(m k):(qa5 m (k+1))=qgy m (qa5 m k):=rfl
theorem qFa(m):qkL (m+1)=qkj m:=rfl
theorem qGq(m):qpP (m+1)=qj3 m:=rfl
theorem qDT(m):qkN (m+1)=qka m:=rfl
theorem qE4(m):qkW (m+1)=qkh m:=rfl
theorem qCE(m):jP (m+1)=qfw m (jP m) (qaw m (jP m) m):=rfl
theorem qi9(m k):(qaw m (jP m) (k+1))=qc8 m (jP m) (qaw m (jP m) k):=rfl
theorem qBR(m):qjm (m+1)=qfy m (ql m m).1 (ql m m).2.1 (ql m m).2.2.1 (ql m m).2.2.2:=rfl
theorem qoG(m k):(ql m (k+1)).1=qfg m (ql m k).1 (ql m k).2.1 (ql m k).2.2.1 (ql m k).2.2.2:=rfl
theorem qiR(m k):(ql m (k+1)).2.1=qcV m (ql m k).1 (ql m k).2.1 (ql m k).2.2.1 (ql m k).2.2.2:=rfl
theorem qoJ(m k):(ql m (k+1)).2.2.1=qfL m (ql m k).1 (ql m k).2.1 (ql m k).2.2.1 (ql m k).2.2.2:=rfl
theorem qoT(m k):(ql m (k+1)).2.2.2=qfv m (ql m k).1 (ql m k).2.1 (ql m k).2.2.1 (ql m k).2.2.2:=rfl
theorem ql4(m):qkQ (m+1)=qdN m:=rfl
theorem qqw(m):qbX (m+1)=qae m (jB m m):=rfl
theorem qhl(m k):(jB m (k+1))=qai m (jB m k):=rfl
theorem qps(m):law20_EnvelopeFits (m+1)=qc3 m:=rfl
end Go.AmZ
namespace Go.GxZ
def size:T->Nat:=T.para λ _ a=>1+a.sum
theorem qU(t:T):size t=1+(t.kids.map size).sum:=T.para_eq _ _
theorem size_pos(t:T):1<=size t:=by rw[qU];omega
theorem qJ7(l:List T):l.length<=(l.map size).sum:=by
 induction l with
 |nil=>simp
 |cons x l a=>have:=size_pos x;simp only[wx,wk,kO];omega
theorem qk8(l:List T)(x:T)(h:x∈l):size x<=(l.map size).sum:=by
 induction l with
 |nil=>cases h
 |cons y l a=>
   simp only[wk,kO];obtain rfl|h:=wv.1 h
   .omega
   .have:=a h;omega
theorem yu(t:T)(x:T)(h:x∈t.kids):size x<size t:=by
 have:=qk8 t.kids x h;rw[qU t];omega
theorem yx(t:T):t.kids.length<size t:=by
 have:=qJ7 t.kids;rw[qU t];omega
def sgn(a b:Int):Int:=if a<b then -1 else if b<a then 1 else 0
def thn(x y:Int):Int:=if x=0 then y else x
structure Cmp {α:Type} (f:α->α->Int):Prop where
 rng:∀a b,f a b=-1\/f a b=0\/f a b=1
 anti:∀a b,f b a=- f a b
 trans:∀a b c,f a b=-1->f b c=-1->f a c=-1
 same:∀a b c,f a b=0->f b c=f a c
theorem Cmp.thn{α:Type}{f g:α->α->Int}(d:Cmp f)(l:Cmp g):Cmp λ a b=>thn (f a b) (g a b):=by
 constructor
 .intro a b;have:=d.rng a b;have:=l.rng a b;unfold GxZ.thn;split<;>omega
 .intro a b;have:=d.anti a b;have:=l.anti a b;unfold GxZ.thn;split<;>split<;>omega
 .intro a b c k j;have p:=d.anti a b;have a2:=d.anti b c;have a3:=d.anti a c;have n:=d.trans a b c;have t2:=l.trans a b c;have m:=d.same a b c;have s2:=d.same c b a;have o:=d.rng a b;have r2:=d.rng b c;have r3:=d.rng a c;unfold GxZ.thn at k j |-
  by_cases i:f a b=0
  .by_cases e:f b c=0
   .rw[if_pos i]at k;rw[if_pos e]at j;rw[if_pos (by rw[<-m i];exact e)];exact t2 k j
   .rw[if_neg e]at j;rw[if_neg (by rw[<-m i];exact e),<-m i];exact j
  .rw[if_neg i]at k;by_cases e:f b c=0
   .have:=s2 (by omega);rw[if_neg (by omega)];omega
   .rw[if_neg e]at j;have:=n k j;rw[if_neg (by omega)];exact this
 .intro a b c h
  have i:f a b=0:=by
   unfold GxZ.thn at h;split at h
   .assumption
   .exact absurd h (by assumption)
  have e:g a b=0:=by
   unfold GxZ.thn at h
   rwa [if_pos i]at h
  show GxZ.thn _ _=GxZ.thn _ _;rw[d.same a b c i,l.same a b c e]
theorem Cmp.on{α d:Type}{f:d->d->Int}(c:Cmp f)(p:α->d):Cmp λ a b=>f (p a) (p b):=
 ⟨λ _ _=>c.rng _ _,λ _ _=>c.anti _ _,λ _ _ _=>c.trans _ _ _,λ _ _ _=>c.same _ _ _⟩
theorem qts:Cmp sgn:=by
 constructor
 .intro a b;unfold sgn;split<;>(try split)<;>omega
 .intro a b;unfold sgn;split<;>split<;>(try split)<;>omega
 .intro a b c;unfold sgn;split<;>split<;>(try split)<;>(try split)<;>omega
 .intro a b c;unfold sgn;split<;>split<;>(try split)<;>(try split)<;>omega
theorem qmw{a b:Int}(h:sgn a b=0):a=b:=by unfold sgn at h;split at h<;>(try split at h)<;>omega
theorem qPq(a:Int):sgn a a=0:=by unfold sgn;split<;>(try split)<;>omega
open Lib (compareBytes)
theorem qAo(a:List UInt8):compareBytes a a=0:=by
 induction a with
 |nil=>rfl
 |cons x a b=>simp[compareBytes,b]
theorem qpV:∀a b:List UInt8,compareBytes a b=-1\/compareBytes a b=0\/compareBytes a b=1
 |[],[]|[],_::_|_::_,[]=>by simp[compareBytes]
 |x::a,y::b=>by
   unfold compareBytes;split
   .simp
   .split
    .simp
    .exact qpV a b
theorem qBm:∀a b:List UInt8,compareBytes b a=- compareBytes a b
 |[],[]|[],_::_|_::_,[]=>by simp[compareBytes]
 |x::a,y::b=>by
   have:=qBm a b;unfold compareBytes;simp only[vb];split<;>split<;>(try split)<;>omega
theorem qmN:∀a b:List UInt8,compareBytes a b=0->a=b
 |[],[],_=>rfl
 |[],_::_,h|_::_,[],h=>by simp[compareBytes]at h
 |x::a,y::b,h=>by
   unfold compareBytes at h;simp only[vb]at h;split at h
   .omega
   .split at h
    .omega
    .rw[qmN a b h,UInt8.toNat_inj.1 (show x.toNat=y.toNat by omega)]
theorem qw7:∀ a b c:List UInt8,compareBytes a b=-1->compareBytes b c=-1->compareBytes a c=-1
 | [],_,[],h1,h2=>by
   rename_i b;cases b<;>simp[compareBytes]at h1 h2
 | [],_,_::_,_,_=>by simp[compareBytes]
 | _::_,[],_,h1,_=>by simp[compareBytes]at h1
 | _::_,_::_,[],_,h2=>by simp[compareBytes]at h2
 | x::a,y::b,z::c,h1,h2=>by
   have ih:=qw7 a b c;unfold compareBytes at h1 h2 |-
   simp only[vb]at h1 h2 |-
   split at h1
   ·split at h2
    ·rw[if_pos (by omega)]
    ·split at h2
     ·omega
     ·rw[if_pos (by omega)]
   ·split at h1
    ·omega
    ·split at h2
     ·rw[if_pos (by omega)]
     ·split at h2
      ·omega
      ·rw[if_neg (by omega),if_neg (by omega)];exact ih h1 h2
theorem qNp:Cmp compareBytes:=
 ⟨qpV,qBm,qw7,λ a b c h=>by rw[qmN a b h]⟩
def Jk:List (T->Int)->List T->Int
 |r::a,b::c=>thn (r b) (Jk a c)
 |_,_=>0
def qjW(a b:T):Int:=
 thn (sgn (size a) (size b)) (thn (sgn a.kind b.kind) (thn (compareBytes a.name b.name) (thn (sgn a.sort b.sort) (sgn a.kids.length b.kids.length))))
def qs:T->T->Int:=T.para λ a c b=>thn (qjW a b) (Jk c b.kids)
theorem qg9(a b:T):qs a b=thn (qjW a b) (Jk (a.kids.map qs) b.kids):=congrFun (T.para_eq _ _) b
theorem qe0:Cmp qjW:=
 (qts.on λ t:T=>(size t:Int)).thn ((qts.on T.kind).thn ((qNp.on T.name).thn ((qts.on T.sort).thn (qts.on λ t:T=>(t.kids.length:Int)))))
theorem qg5{x y:Int}(h:thn x y=0):x=0/\y=0:=by unfold thn at h;split at h<;>omega
theorem qrJ{a b:T}(h:qjW a b=0):a.kind=b.kind/\a.name=b.name/\a.sort=b.sort/\a.kids.length=b.kids.length:=by
 unfold qjW at h;let⟨_,h⟩:=qg5 h;let⟨f,h⟩:=qg5 h;let⟨e,h⟩:=qg5 h;let⟨d,c⟩:=qg5 h;have:=qmw c;exact⟨qmw f,qmN _ _ e,qmw d,by omega⟩
theorem qMv(a:T):qjW a a=0:=by
 unfold qjW thn;simp[qPq,qAo]
theorem T.ext{a b:T}(f:a.kind=b.kind)(e:a.name=b.name)(d:a.sort=b.sort)(c:a.kids=b.kids):a=b:=by
 let⟨k,n,s,l⟩:=a;let⟨j,h,g,i⟩:=b;simp only[T.kind,T.name,T.sort,T.kids]at f e d c;rw[f,e,d,c]
theorem qmQ(a:T):qs a a=0:=by
 refine T.ind (P:=λ a=>qs a a=0) ?_ a;intro a c;rw[qg9,qMv,thn,if_pos rfl];generalize a.kids=l at*
 induction l with
 |nil=>rfl
 |cons x l b=>
   rw[wk,Jk,c x (wh ..),thn,if_pos rfl];exact b λ k d=>c k (we _ d)
theorem Jo(a:T):∀b,qs a b=0->a=b:=by
 refine T.ind (P:=λ a=>∀b,qs a b=0->a=b) ?_ a;intro a e b h;rw[qg9]at h;let⟨g,f⟩:=qg5 h;let⟨n,j,i,c⟩:=qrJ g;refine T.ext n j i ?_;generalize a.kids=l at *;generalize b.kids=m at *;clear h g
 induction l generalizing m with
 |nil=>exact(kC.1 c.symm).symm
 |cons x l d=>
   cases m with
   |nil=>simp at c
   |cons y m=>
     rw[wk,Jk]at f;let⟨q,p⟩:=qg5 f;rw[e x (wh ..) y q,d (λ k o=>e k (we _ o)) m p (by simpa using c)]
def qvZ(a:T):Prop:=(∀b,qs a b=-1\/qs a b=0\/qs a b=1)/\(∀b,qs b a=- qs a b)/\(∀b c,qs a b=-1->qs b c=-1->qs a c=-1)
theorem qGb:∀l m:List T,(∀k∈l,qvZ k)->Jk (l.map qs) m=-1\/Jk (l.map qs) m=0\/Jk (l.map qs) m=1
 |[],_,_|_::_,[],_=>by simp[Jk]
 |x::l,y::m,h=>by
   rw[wk,Jk];have c:=(h x (wh ..)).1 y;have b:=qGb l m λ k a=>h k (we _ a);unfold thn;split<;>omega
theorem qBt:∀l m:List T,(∀k∈l,qvZ k)->Jk (m.map qs) l=- Jk (l.map qs) m
 |[],[],_|[],_::_,_|_::_,[],_=>by simp[Jk]
 |x::l,y::m,h=>by
   rw[wk,Jk,wk,Jk];have c:=(h x (wh ..)).2.1 y;have b:=qBt l m λ k a=>h k (we _ a);unfold thn;split<;>split<;>omega
theorem qv9:∀l m n:List T,(∀k∈l,qvZ k)->l.length=m.length->m.length=n.length->Jk (l.map qs) m=-1->Jk (m.map qs) n=-1->Jk (l.map qs) n=-1
 |[],_,_,_,_,_,h,_=>by simp[Jk]at h
 |_::_,[],_,_,h,_,_,_|_::_,_::_,[],_,_,h,_,_=>by simp at h
 |x::l,y::m,z::n,h,e1,j,b,a=>by
   rw[wk,Jk]at b a |-
   have g:=h x (wh ..);have f:=qv9 l m n (λ k i=>h k (we _ i)) (by simpa using e1) (by simpa using j);have e:=g.2.2 y z;by_cases d:qs x y=0
   .have:=Jo x y d;subst this;rw[thn,if_pos d]at b;by_cases c:qs x z=0
    .rw[thn,if_pos c]at a |-
     exact f b a
    .rw[thn,if_neg c]at a |-
     exact a
   .rw[thn,if_neg d]at b;by_cases c:qs y z=0
    .have:=Jo y z c;subst this;rw[thn,if_neg d];exact b
    .rw[thn,if_neg c]at a;have:=e b a;rw[thn,if_neg (by omega)];exact this
theorem qJG(a:T):qvZ a:=by
 refine T.ind (P:=qvZ) ?_ a;intro a i;refine⟨λ b=>?_,λ b=>?_,λ b c g d=>?_⟩
 .rw[qg9];have g:=qe0.rng a b;have d:=qGb a.kids b.kids i;unfold thn;split<;>omega
 .rw[qg9,qg9];have g:=qe0.anti a b;have d:=qBt a.kids b.kids i;unfold thn;split<;>split<;>omega
 .rw[qg9]at g d |-
  by_cases h:qjW a b=0
  .rw[thn,if_pos h]at g;have e:=qe0.same a b c h;by_cases f:qjW b c=0
   .rw[thn,if_pos f]at d;rw[thn,if_pos (by rw[<-e];exact f)];exact qv9 _ _ _ i (qrJ h).2.2.2 (qrJ f).2.2.2 g d
   .rw[thn,if_neg f]at d;rw[thn,if_neg (by rw[<-e];exact f),<-e];exact d
  .rw[thn,if_neg h]at g;by_cases f:qjW b c=0
   .have e1:=qe0.anti b c;have l:=qe0.same c b a (by omega);have k:=qe0.anti a b;have j:=qe0.anti a c;rw[thn,if_neg (by omega)];omega
   .rw[thn,if_neg f]at d;have:=qe0.trans a b c g d;rw[thn,if_neg (by omega)];exact this
theorem zW:Cmp qs:=
 ⟨λ a=>(qJG a).1,λ a b=>(qJG a).2.1 b,λ a=>(qJG a).2.2,λ a b c h=>by rw[Jo a b h]⟩
theorem qPg(a b:T):qs a b=0↔a=b:=⟨Jo a b,λ h=>by rw[h];exact qmQ b⟩
theorem qqO:∀a b:List UInt8,Op.bytesLess a b=decide (compareBytes a b=-1)
 |[],[]|[],_::_|_::_,[]=>by simp[Op.bytesLess,compareBytes]
 |x::a,y::b=>by
   rw[Op.bytesLess,compareBytes,qqO a b];by_cases d:x<y
   .simp[d]
   .by_cases c:y<x
    .have:¬ x=y:=λ e=>by rw[e]at c;exact d (by rw[e];exact c)
     simp[d,c,this]
    .have:x=y:=UInt8.toNat_inj.1 (by rw[vb]at d c;omega);simp[this]
end Go.GxZ
namespace Go.GxZ
def qmc:List (Int->Int)->Int->Int
 |[],m=>m
 |f::a,m=>if f m<0 then -1 else qmc a (f m)
def qbB:T->Int->Int:=T.para λ t a m=>if m<=0\/40<t.name.length then -1 else qmc a (m-1)
theorem qHl(t:T)(m:Int):qbB t m=if m<=0\/40<t.name.length then -1 else qmc (t.kids.map qbB) (m-1):=congrFun (T.para_eq _ _) m
theorem qrx(t:T):∀m,qbB t m<0/\qbB t m=-1\/0<=qbB t m/\qbB t m=m-size t:=by
 refine T.ind (P:=λ t=>∀m,qbB t m<0/\qbB t m=-1\/0<=qbB t m/\qbB t m=m-size t) ?_ t;intro t e m
 have g:∀l:List T,(∀k∈l,k∈t.kids)->∀m,0<=m->(qmc (l.map qbB) m<0/\qmc (l.map qbB) m=-1\/0<=qmc (l.map qbB) m/\qmc (l.map qbB) m=m-((l.map size).sum:Nat)):=by
  intro l
  induction l with
  |nil=>intro _ m b;right;simp[qmc];exact b
  |cons x l a=>
    intro c m b;simp only[wk,qmc,kO];have i:=e x (c x (wh ..)) m;by_cases d:qbB x m<0
    .rw[if_pos d];left;exact⟨by omega,rfl⟩
    .rw[if_neg d];have h:=a (λ k f=>c k (we _ f)) (qbB x m) (by omega);omega
 grind [qHl,qU]
def qak:T->Nat:=T.para λ _ a=>a.foldl max 0+1
theorem qiO(t:T):qak t=(t.kids.map qak).foldl max 0+1:=T.para_eq _ _
theorem qEv(l:List Nat):∀(a b:Nat),a<=b->(∀x∈l,x<=b)->l.foldl max a<=b:=by
 induction l with
 |nil=>intro a b h _;exact h
 |cons x l d=>intro a b h c;exact d _ _ (Nat.max_le.2 ⟨h,c x (wh ..)⟩) λ y e=>c y (we _ e)
theorem qHd(t:T):qak t<=size t:=by
 refine T.ind (P:=λ t=>qak t<=size t) ?_ t;intro t b;rw[qiO,qU]
 have:(t.kids.map qak).foldl max 0<=(t.kids.map size).sum:=by
  refine qEv _ _ _ (wg _) λ x c=>?_;obtain⟨k,a,rfl⟩:=wC.1 c;exact wz (b k a) (qk8 _ _ a)
 omega
def qgN(c:Int):Bool:=decide (97<=c/\c<=122)||decide (65<=c/\c<=90)
def qro(c:Int):Bool:=decide (48<=c/\c<=57)
def Qc(c:Int):Bool:=qgN c||qro c||decide (c=95)||decide (c=35)
def jT(l:List UInt8):Bool:=decide (0<l.length)&&decide (l.length<=24)&&qgN ((l.getD 0 0).toNat:Int)&&l.all λ c=>Qc (c.toNat:Int)
def qjg(k so:Int)(n:Nat)(a:Bool):Int:=
 if k=1\/k=2 then(if so<0\/5<so\/0<n then 1 else if a then 0 else 2)
 else if k=3 then(if so≠0 then 1 else if a then(if 8<n then 3 else 0)else 2)
 else 1
def jS(t:T):Int:=qjg t.kind t.sort t.kids.length (jT t.name)
def Qm:T->Int:=T.para λ t a=>a.foldl thn (jS t)
theorem qeS(t:T):Qm t=(t.kids.map Qm).foldl thn (jS t):=T.para_eq _ _
theorem QQ{x:Int}(h:x≠0)(y:Int):thn x y=x:=if_neg h
theorem qS(l:List Int):∀{x:Int},x≠0->l.foldl thn x=x:=by
 induction l with
 |nil=>intro x _;rfl
 |cons y l a=>intro x h;rw[ky,QQ h];exact a h
theorem QP(l:List Int)(x:Int):(x::l).foldl thn 0=l.foldl thn x:=rfl
theorem qt5{t:T}(h:Qm t=0):jS t=0/\(∀k∈t.kids,Qm k=0):=by
 rw[qeS]at h;by_cases a:jS t=0
 .refine⟨a,?_⟩;rw[a]at h;generalize t.kids=l at *;clear a
  induction l with
  |nil=>intro k b;cases b
  |cons x l c=>
    rw[wk,QP]at h;grind [qS]
 .grind [qS]
def qB(t:T):Int:=if Qm t≠0 then Qm t else if 400<size t\/40<qak t then 3 else 0
theorem qEI(l:List Nat):∀a:Nat,a<=l.foldl max a:=by
 induction l with
 |nil=>intro a;exact wa _
 |cons x l b=>intro a;exact wz (vR a x) (b _)
instance:DecidableEq T:=λ _ _=>Classical.propDecidable _
def zi(a b:T):Bool:=decide (a=b)
def qpI:List T->Int->Bool
 |[],_=>true
 |x::l,m=>if qbB x m<0 then false else qpI l (qbB x m)
theorem qAm:∀(l:List T) (m:Int),0<=m->qpI l m=true->((l.map size).sum:Nat)<=m
 |[],m,a,_=>by simpa using a
 |x::l,m,a,h=>by
   rw[qpI]at h;by_cases b:qbB x m<0
   .grind
   .rw[if_neg b]at h;have d:=qrx x m;have c:=qAm l (qbB x m) (by omega) h;grind
def jw:List (List UInt8×Int×Int×Int):=[
 ([112,97,105,114],2,2,1),
 ([101,110,99],2,2,1),
 ([97,101,110,99],2,2,1),
 ([112,107],1,1,1),
 ([115,105,103,110],2,2,1),
 ([104,97,115,104],1,1,1),
 ([120,111,114],2,8,1),
 ([122,101,114,111],0,0,1),
 ([101,120,112],2,2,1),
 ([109,117,108],2,8,1),
 ([105,110,118],1,1,1),
 ([111,110,101],0,0,1),
 ([115,107],1,1,2),
 ([115,104,107],2,2,2),
 ([110,101,119],1,8,2),
 ([102,115,116],1,1,3),
 ([115,110,100],1,1,3),
 ([100,101,99],2,2,3),
 ([97,100,101,99],2,2,3),
 ([111,112,101,110],2,2,3),
 ([114,101,97,100],1,1,3)]
def qzk(l:List (List UInt8×Int×Int×Int))(n:List UInt8):Int×Int×Int:=((l.find? λ r=>r.1==n).map (·.2)).getD (0,0,0)
theorem qLe(r:List UInt8×Int×Int×Int)(l:List (List UInt8×Int×Int×Int))(n:List UInt8):qzk (r::l) n=if(r.1==n)=true then r.2 else qzk l n:=by
 grind [qzk]
def qOE(l:List (List UInt8×Int×Int×Int))(n:List UInt8):Bool:=l.any λ r=>r.1==n
def qnY(l:List (List UInt8×Int×Int×Int))(n:List UInt8)(k:Int):Bool:=qOE l n&&decide ((qzk l n).1<=k)&&decide (k<=(qzk l n).2.1)
theorem qMc(r:List UInt8×Int×Int×Int)(l:List (List UInt8×Int×Int×Int))(n:List UInt8)(k:Int):
  qnY (r::l) n k=if(r.1==n)=true then decide (r.2.1<=k)&&decide (k<=r.2.2.1)else qnY l n k:=by
 grind [qnY,qOE,qLe]
def qp9:List UInt8:=[112,97,105,114]
def qql:List UInt8:=[101,110,99]
def qjk:List UInt8:=[97,101,110,99]
def nPk:List UInt8:=[112,107]
def qfD:List UInt8:=[115,105,103,110]
def qbG:List UInt8:=[120,111,114]
def qbw:List UInt8:=[122,101,114,111]
def qd4:List UInt8:=[101,120,112]
def qdw:List UInt8:=[109,117,108]
def QY:List UInt8:=[105,110,118]
def qgP:List UInt8:=[111,110,101]
def nSk:List UInt8:=[115,107]
def qvt:List UInt8:=[115,104,107]
def qhV:List UInt8:=[110,101,119]
def qN8:List UInt8:=[102,115,116]
def qDS:List UInt8:=[115,110,100]
def qOg:List UInt8:=[100,101,99]
def qJv:List UInt8:=[97,100,101,99]
def qI2:List UInt8:=[111,112,101,110]
def qJ3:List UInt8:=[114,101,97,100]
def zT:T:=.mk 0 [] 0 []
def kid(t:T)(i:Nat):T:=t.kids.getD i zT
def apT(n:List UInt8)(l:List T):T:=.mk 3 n 0 l
def isN(t:T)(n:List UInt8):Bool:=t.kind==3&&t.name==n
def qE(n:List UInt8):Int×Int×Int:=((jw.find? λ r=>r.1==n).map (·.2)).getD (0,0,0)
def qaP(t:T):Bool:=
 if t.name=qhV then decide ((kid t 0).kind≠2)
 else if t.name=nSk\/t.name=qvt then t.kids.any λ k=>decide (k.kind=3)||decide (k.sort≠1)else false
def qcU(t:T):Int:=
 if t.kind≠3 then 0 else if(qE t.name).2.2=0 then 10 else if(t.kids.length:Int)<(qE t.name).1\/(qE t.name).2.1<(t.kids.length:Int)then 6 else if qaP t then 10 else 0
def zy:T->Int:=T.para λ t a=>if t.kind≠3 then 0 else a.foldl thn (qcU t)
theorem qok(t:T):zy t=if t.kind≠3 then 0 else(t.kids.map zy).foldl thn (qcU t):=T.para_eq _ _
def qac(t:T):Int:=thn (qB t) (zy t)
def yq(t:T):Bool:=
 if t.name=qN8\/t.name=qDS then isN (kid t 0) qp9
 else if t.name=qOg then isN (kid t 0) qql&&zi (kid (kid t 0) 1) (kid t 1)
 else if t.name=qJv then isN (kid t 0) qjk&&isN (kid (kid t 0) 1) nPk&&zi (kid (kid (kid t 0) 1) 0) (kid t 1)
 else if t.name=qI2 then isN (kid t 0) qfD&&isN (kid t 1) nPk&&zi (kid (kid t 0) 1) (kid (kid t 1) 0)
 else if t.name=qJ3 then isN (kid t 0) qfD else false
def ql3(t:T):T:=if yq t then kid (kid t 0) (if t.name=qDS then 1 else 0)else t
def qdA(t:T):Bool:=t.kind==3&&(t.name==qdw||t.name==QY||t.name==qgP)
abbrev Pw:=T×Int
def yK:List Pw->T->Int->List Pw
 |[],t,n=>[(t,n)]
 |(x,m)::l,t,n=>if qs t x=-1 then(t,n)::(x,m)::l else if qs t x=0 then(if m+n=0 then l else(x,m+n)::l)else(x,m)::yK l t n
def arK(t:T):Bool := !(t.name==qgP&&t.kids.length != 0||t.name==QY&&t.kids.length != 1||t.name==qdw&&decide (t.kids.length<2))
def arT:T->Bool:=T.para λ t a => !qdA t||(arK t&&a.all id)
theorem qwT(t:T):arT t=(!qdA t||(arK t&&(t.kids.map arT).all id)):=T.para_eq _ _
def qbq(t:T)(n:Int):Int:=if t.name=QY then -n else n
def jM:T->List Pw->Int->List Pw:=T.para λ t a l n=>if qdA t then a.foldl (λ l f=>f l (qbq t n)) l else yK l t n
theorem qhn(t:T)(l:List Pw)(n:Int):jM t l n=if qdA t then(t.kids.map jM).foldl (λ l f=>f l (qbq t n)) l else yK l t n:=by
 have h:jM t=λ l n=>if qdA t then(t.kids.map jM).foldl (λ l f=>f l (qbq t n)) l else yK l t n:=T.para_eq _ _;rw[h]
def ofP(t:T):List Pw×Int:=
 if qB t≠0 then([],qB t)else if arT t=false then([],6)else if 200<(jM t [] 1).length then([],3)else(jM t [] 1,0)
def pvK(q:Option T)(p:Pw):Int:=
 if qB p.1≠0 then qB p.1 else if qdA p.1 then 1 else if p.2=0\/p.2 < -1000\/1000<p.2 then 7 else match q with|some x=>if 0<=qs x p.1 then 5 else 0|none=>0
def pvL:Option T->List Pw->Int
 |_,[]=>0
 |q,p::l=>thn (pvK q p) (pvL (some p.1) l)
def JC(l:List Pw):Int:=if 200<l.length then 3 else pvL none l
def yw(l:List Pw):List T:=l.flatMap λ p=>List.replicate p.2.toNat p.1
def yz(l:List Pw):List T:=l.flatMap λ p=>List.replicate (-p.2).toNat (apT QY [p.1])
def qan(o:List T):T:=if o.length=0 then apT qgP []else if o.length=1 then o.getD 0 zT else apT qdw o
def qbt(l:List Pw):T×Int:=
 if JC l≠0 then(zT,JC l)else if 8<(yw l++yz l).length then(zT,3)
 else if qB (qan (yw l++yz l))≠0 then(zT,qB (qan (yw l++yz l)))else(qan (yw l++yz l),0)
def qn7(l:List Pw):Bool:=l.any λ p=>decide (p.2 < -1000)||decide (1000<p.2)
def Ja(a b:List Pw):List Pw:=b.foldl (λ l p=>yK l p.1 p.2) a
def qnT(a b:List Pw):List Pw×Int:=
 if JC a≠0 then([],JC a)else if JC b≠0 then([],JC b)else if qn7 (Ja a b)then([],7)else if 200<(Ja a b).length then([],3)else(Ja a b,0)
def zt:List T->List T->List T
 |[],b=>b
 |x::a,[]=>x::a
 |x::a,y::b=>if qs x y=-1 then x::zt a (y::b)else if qs x y=1 then y::zt (x::a) b else zt a b
termination_by a b=>a.length+b.length
def Qi:T->List T:=T.para λ t a=>if isN t qbw&&t.kids.isEmpty then[]else if isN t qbG then a.foldl zt []else[t]
theorem qlv(t:T):Qi t=if isN t qbw&&t.kids.isEmpty then[]else if isN t qbG then(t.kids.map Qi).foldl zt []else[t]:=T.para_eq _ _
def qox(l:List T):Int:=if 200<l.length then 3 else(l.map qB).foldl thn 0
def yf(l:List T):List T:=(l.map Qi).foldl zt []
def qas(o:List T):T:=if o.length=0 then apT qbw []else if o.length=1 then o.getD 0 zT else apT qbG o
def qpT(l:List T):T×Int:=
 if qox l≠0 then(zT,qox l)else if qB (qas (yf l))≠0 then(zT,3)else(qas (yf l),0)
def qiY(b:T)(l:List Pw):T×Int:=
 if l.length=0 then(b,0)else if(qbt l).2≠0 then(zT,(qbt l).2)else(apT qd4 [b,(qbt l).1],0)
def qp2(b e:T):T×Int:=
 if(ofP e).2≠0 then(zT,(ofP e).2)
 else if isN b qd4 then
  (if(ofP (kid b 1)).2≠0 then(zT,(ofP (kid b 1)).2)
   else if(qnT (ofP (kid b 1)).1 (ofP e).1).2≠0 then(zT,(qnT (ofP (kid b 1)).1 (ofP e).1).2)
   else qiY (kid b 0) (qnT (ofP (kid b 1)).1 (ofP e).1).1)
 else qiY b (ofP e).1
def isD(n:List UInt8):Bool:=n==qN8||n==qDS||n==qOg||n==qJv||n==qI2||n==qJ3
def qmK(t:T):T×Int:=if(ofP t).2≠0 then(zT,(ofP t).2)else qbt (ofP t).1
def J5(t:T):T×Int:=
 if isD t.name then(ql3 t,0)else if t.name=qbG then qpT t.kids
 else if t.name=qdw\/t.name=QY\/t.name=qgP then qmK t
 else if t.name=qd4 then qp2 (kid t 0) (kid t 1)else(t,0)
def zU:T->T×Int:=T.para λ t a=>
 if t.kind≠3 then(t,0)else if(a.map (·.2)).foldl thn 0≠0 then(zT,(a.map (·.2)).foldl thn 0)else J5 (apT t.name (a.map (·.1)))
theorem qoV(t:T):zU t=if t.kind≠3 then(t,0)else if((t.kids.map zU).map (·.2)).foldl thn 0≠0 then(zT,((t.kids.map zU).map (·.2)).foldl thn 0)else J5 (apT t.name ((t.kids.map zU).map (·.1))):=T.para_eq _ _
def qiM(t:T):T×Int:=
 if qac t≠0 then(zT,qac t)else if(zU t).2≠0 then(zT,(zU t).2)else if qB (zU t).1≠0 then(zT,qB (zU t).1)else zU t
def agB(l:List T):Bool:=l.all λ k => !(k.kind==3) && !(k.sort != 1)
def qlh(t:T):Bool:=if t.name=qhV then(kid t 0).kind==2 else agB t.kids
theorem qMZ(k:T)(l:List T):agB (k::l)=((!(k.kind==3) && !(k.sort != 1))&&agB l):=rfl
end Go.GxZ
namespace Go.AmZ
open Go Go.GxZ Go.Lib
theorem qnd(a b:Int):Ev (λ m _=>qbk m a b) (sgn a b):=by
 refine waG ?_;simp only[qzG,qhq];unfold sgn;refine waB (λ h=>?_) λ h=>?_
 .exact waE (by rw[if_pos (qw.1 h)])
 .rw[qx]at h;refine waB (λ c=>?_) λ c=>?_
  .rw[qw]at c;exact waE (by rw[if_neg (by omega),if_pos c])
  .rw[qx]at c;exact waE (by rw[if_neg (by omega),if_neg (by omega)])
theorem qvK{l:List T}{i:Nat}{x:T}(h:l.drop i=x::l.drop (i+1)):((l.drop i).map size).sum=size x+((l.drop (i+1)).map size).sum:=by
 grind
theorem qpO(t:T):size t<=1000000000->Ev (λ m _=>jc m t) (size t:Int):=by
 induction t using T.ind with
 |h t d=>
   intro p;refine waG ?_;simp only[qGo,qgw];have q:=yx t;have j:=qU t
   have b:=qt (P:=λ i=>∀a:Nat,a+((t.kids.drop i).map size).sum<=1000000000->Ev (λ m k=>qbp m (jc m) k a i t.kind t.name t.sort t.kids) ((a+((t.kids.drop i).map size).sum:Nat):Int)) t.kids (by omega)
    (λ c a _=>by
     refine waF ?_;simp only[qqU,qgI];refine waD c ?_;exact waE (by simp))
    (λ i x e l c g f o a n=>by
     rw[qvK l]at n |-
     refine waF ?_;simp only[qqU,qgI];refine waC c (waA g ?_);rw[qi];refine way (d x (wb e) (by omega)) ?_;rw[f,qeF,jN (by omega)];refine(o (a+size x) (by omega)).res (by congr 1;omega))
   refine waH (L:=λ m k=>qbp m (jc m) k 1 0 t.kind t.name t.sort t.kids) ?_;refine(b 0 (wg _) 1 (by simp;omega)).res (by rw[wH,j])
theorem qDP(a b:Nat):qnM (a:Int) (b:Int)=((max a b:Nat):Int):=by unfold qnM;split<;>omega
theorem qsW(a b:Int):Ev (λ m _=>qeH m a b) (sgn a b):=by
 refine waG ?_;simp only[qHa,qlx];unfold sgn;refine waB (λ h=>?_) λ h=>?_
 .exact waE (by rw[if_pos (qw.1 h)])
 .rw[qx]at h;refine waB (λ c=>?_) λ c=>?_
  .rw[qw]at c;exact waE (by rw[if_neg (by omega),if_pos c])
  .rw[qx]at c;exact waE (by rw[if_neg (by omega),if_neg (by omega)])
theorem qFT(t:T):size t<=1000000000->Ev (λ m _=>Qt m t) (size t:Int):=by
 induction t using T.ind with
 |h t d=>
   intro p;refine waG ?_;simp only[qGY,qhU];have q:=yx t;have j:=qU t
   have b:=qt (P:=λ i=>∀a:Nat,a+((t.kids.drop i).map size).sum<=1000000000->Ev (λ m k=>qcr m (Qt m) k a t.kids t.kids.length i) ((a+((t.kids.drop i).map size).sum:Nat):Int)) t.kids (by omega)
    (λ c a _=>by
     refine waF ?_;simp only[qsv,qhw];refine waD c ?_;exact waE (by simp))
    (λ i x e l c g f o a n=>by
     rw[qvK l]at n |-
     refine waF ?_;simp only[qsv,qhw];refine waC c (waA g ?_);rw[qi];refine way (d x (wb e) (by omega)) ?_;rw[f,qeF,jN (by omega)];refine(o (a+size x) (by omega)).res (by congr 1;omega))
   refine waH (L:=λ m k=>qcr m (Qt m) k 1 t.kids t.kids.length 0) ?_;refine(b 0 (wg _) 1 (by simp;omega)).res (by rw[wH,j])
theorem qBg(t:T):size t<=1000000000->Ev (λ m _=>jv m t) (qak t:Int):=by
 induction t using T.ind with
 |h t e=>
   intro o;refine waG ?_;simp only[qBZ,qfd];have p:=yx t;have q:=qU t
   have b:=qt (P:=λ i=>∀a:Nat,a<=1000000000->Ev (λ m k=>qau m (jv m) k a i t.kind t.name t.sort t.kids) ((((t.kids.drop i).map qak).foldl max a+1:Nat):Int)) t.kids (by omega)
    (λ c a _=>by
     refine waF ?_;simp only[qos,qfR];refine waD c ?_;rw[show qf (a:Int) 1=((a+1:Nat):Int) by unfold qf;omega,jN (by omega)];exact waE (by simp))
    (λ i x f l c j g n a r=>by
     refine waF ?_;simp only[qos,qfR];refine waC c (waA j ?_);rw[qi];have d:=wb f;have u:=yu t x d;have s:=qHd x;refine way (e x d (by omega)) ?_;rw[g,qDP];refine(n (max a (qak x)) (by omega)).res ?_;rw[l,wk,ky])
   refine waH (L:=λ m k=>qau m (jv m) k 0 0 t.kind t.name t.sort t.kids) ?_;refine(b 0 (wg _) 0 (by omega)).res (by rw[wH,qiO])
theorem qGs(a:List (T->Int)):Jk a []=0:=by cases a<;>rfl
theorem qAI{l m:List T}{i:Nat}{x y:T}(b:l.drop i=x::l.drop (i+1))(a:m.drop i=y::m.drop (i+1)):Jk ((l.drop i).map qs) (m.drop i)=thn (qs x y) (Jk ((l.drop (i+1)).map qs) (m.drop (i+1))):=by
 rw[b,a,wk];rfl
theorem qFS{l:List T}{i:Nat}{y:T}(h:l[i]?=some y):l.drop i=y::l.drop (i+1):=by
 grind [List.getElem?_eq_some_iff,List.drop_eq_getElem_cons]
theorem qu0(a b:List UInt8):slt a b=decide (compareBytes a b=-1):=qqO a b
theorem qDX(a b:List UInt8):qrl (slt a b) (qu a b)=decide (compareBytes a b≠1):=by
 grind [qrl,qu,qu0,qpV,qmN,beq_eq_false_iff_ne,qAo]
theorem qjd(a:T):size a<=1000000000->∀ b,size b<=1000000000->Ev (λ m _=>zR m a b) (qs a b):=by
 induction a using T.ind with
 | h a ih =>
   intro ha b hb;refine waG ?_;simp only[qyl,qdg,qi];have hla:=yx a;have hlb:=yx b;rw[qg9];unfold qjW;refine way (qpO a ha) (way (qpO b hb) (way (qnd _ _) ?_));refine waB (λ h=>?_) λ h=>?_
   ·rw[bnt,qh]at h;exact waE (by rw[QQ (by rw[QQ h];exact h),QQ h])
   rw[bnf,qk]at h;rw[h,show ∀ y,thn 0 y=y from λ y=>rfl];refine way (qnd _ _) ?_;refine waB (λ h=>?_) λ h=>?_
   ·rw[bnt,qh]at h;exact waE (by rw[QQ (by rw[QQ h];exact h),QQ h])
   rw[bnf,qk]at h;rw[h,show ∀ y,thn 0 y=y from λ y=>rfl];refine waB (λ h=>?_) λ h=>?_
   ·rw[qu0,decide_eq_true_iff]at h;exact waE (by rw[h];rfl)
   rw[qu0,decide_eq_false_iff_not]at h;refine waB (λ h'=>?_) λ h'=>?_
   ·rw[bnt,qDX,decide_eq_false_iff_not,Decidable.not_not]at h';exact waE (by rw[h'];rfl)
   rw[bnf,qDX,decide_eq_true_iff]at h';have h0:compareBytes a.name b.name=0:=by have:=qpV a.name b.name;omega
   rw[h0,show ∀ y,thn 0 y=y from λ y=>rfl];refine way (qnd _ _) ?_;refine waB (λ h=>?_) λ h=>?_
   ·rw[bnt,qh]at h;exact waE (by rw[QQ (by rw[QQ h];exact h),QQ h])
   rw[bnf,qk]at h;rw[h,show ∀ y,thn 0 y=y from λ y=>rfl];refine way (qnd _ _) ?_;refine waB (λ h=>?_) λ h=>?_
   ·rw[bnt,qh]at h;exact waE (by rw[QQ h])
   rw[bnf,qk]at h;rw[h,show ∀ y,thn 0 y=y from λ y=>rfl];have hlen:a.kids.length=b.kids.length:=by have:=qmw h;omega
   have key:=qt (P := λ i=>Ev (λ m k=>Je m (zR m) k i a.kind a.name a.sort a.kids b.kind b.name b.sort b.kids) (Jk ((a.kids.drop i).map qs) (b.kids.drop i))) a.kids (by omega)
    (λ hc=>by
     refine waF ?_;simp only[qmr,qdn];refine waD hc ?_;exact waE (by rw[hlen,wJ,qGs]))
    (λ i x hx hd hc hg hi hP=>by
     refine waF ?_;simp only[qmr,qdn,qi];have hib:i<b.kids.length:=by have:=(List.getElem?_eq_some_iff.1 hx).1;omega
     have hy:=List.getElem?_eq_getElem hib;have hmx:=wb hx;have h1:=yu a x hmx;have h2:=yu b _ (wb hy);refine waC hc (waA hg (waA (by rw[zF];exact hy) ?_));rw[qAI hd (qFS hy)];refine way (ih x hmx (by omega) _ (by omega)) ?_;refine waB (λ h=>?_) λ h=>?_
     ·rw[bnt,qh]at h;exact waE (by rw[QQ h])
     ·rw[bnf,qk]at h;rw[h,hi];exact hP)
   refine waH (L := λ m k=>Je m (zR m) k 0 a.kind a.name a.sort a.kids b.kind b.name b.sort b.kids) ?_;exact(key 0 (wg _)).res (by rw[wH,wH])
theorem qLg(a b:List UInt8):Ev (λ m _=>strings_Compare 0 a b) (compareBytes a b):=waz _
theorem qcd(a:T):size a<=1000000000->∀ b,size b<=1000000000->Ev (λ m _=>qz m a b) (qs a b):=by
 induction a using T.ind with
 | h a ih =>
   intro ha b hb;refine waG ?_;simp only[qzY,qeA,qi];have hla:=yx a;have hlb:=yx b;rw[qg9];unfold qjW
   have stop:∀ c:Int,c≠0->∀ i:Int,Ev (λ m k=>Qj m (qz m) k c i a.kind a.name a.sort a.kids b.kind b.name b.sort b.kids) c:=by
    intro c hc i;refine waF ?_;simp only[qhr,qb0];exact waD (qh.2 hc) (waz c)
   have key:a.kids.length=b.kids.length->∀ i,i<=a.kids.length->Ev (λ m k=>Qj m (qz m) k 0 i a.kind a.name a.sort a.kids b.kind b.name b.sort b.kids) (Jk ((a.kids.drop i).map qs) (b.kids.drop i)) := λ hlen=>qt a.kids (by omega)
    (λ hc=>by
     refine waF ?_;simp only[qhr,qb0];refine waC rfl (waD hc ?_);exact waE (by rw[hlen,wJ,qGs]))
    (λ i x hx hd hc hg hi hP=>by
     refine waF ?_;simp only[qhr,qb0,qi];have hib:i<b.kids.length:=by have:=(List.getElem?_eq_some_iff.1 hx).1;omega
     have hy:=List.getElem?_eq_getElem hib;have hmx:=wb hx;have h1:=yu a x hmx;have h2:=yu b _ (wb hy);refine waC rfl (waC hc (waA hg (waA (by rw[zF];exact hy) ?_)));rw[qAI hd (qFS hy)];refine way (ih x hmx (by omega) _ (by omega)) ?_;rw[hi];by_cases h:qs x b.kids[i]=0
     ·rw[h];exact hP
     ·rw[QQ h];exact stop _ h _)
   have fin:∀ c:Int,(c=0->a.kids.length=b.kids.length)->Ev (λ m k=>Qj m (qz m) m c 0 a.kind a.name a.sort a.kids b.kind b.name b.sort b.kids) (thn c (Jk (a.kids.map qs) b.kids)):=by
    intro c hc;refine waH (L := λ m k=>Qj m (qz m) k c 0 a.kind a.name a.sort a.kids b.kind b.name b.sort b.kids) ?_;by_cases h:c=0
    ·subst h;exact(key (hc rfl) 0 (wg _)).res (by rw[wH,wH];rfl)
    ·rw[QQ h];exact stop c h 0
   refine way (qFT a ha) (way (qFT b hb) (way (qsW _ _) ?_));have z0:∀ y,thn 0 y=y := λ y=>rfl;by_cases h1:sgn (size a:Int) (size b)=0
   ·rw[h1,z0];refine waC rfl (way (qsW _ _) ?_);by_cases h2:sgn a.kind b.kind=0
    ·rw[h2,z0];refine waC rfl (way (qLg _ _) ?_);by_cases h3:compareBytes a.name b.name=0
     ·rw[h3,z0];refine waC rfl (way (qsW _ _) ?_);by_cases h4:sgn a.sort b.sort=0
      ·rw[h4,z0];refine waC rfl (way (qsW _ _) ?_);grind [qmw]
      ·rw[QQ h4];refine waD (qh.2 h4) ?_;exact fin _ λ h=>absurd h h4
     ·rw[QQ h3];refine waD (qh.2 h3) (waD (qh.2 h3) ?_);exact fin _ λ h=>absurd h h3
    ·rw[QQ h2];refine waD (qh.2 h2) (waD (qh.2 h2) (waD (qh.2 h2) ?_));exact fin _ λ h=>absurd h h2
   ·rw[QQ h1];refine waD (qh.2 h1) (waD (qh.2 h1) (waD (qh.2 h1) (waD (qh.2 h1) ?_)));exact fin _ λ h=>absurd h h1
theorem qyP(a b:T):ieq (qs a b) 0=zi a b:=by
 unfold zi;rw[xB,qk,decide_eq_true_iff];exact qPg a b
theorem QF(a b:T)(d:size a<=1000000000)(c:size b<=1000000000):Ev (λ m _=>ja m a b) (zi a b):=by
 refine waG ?_;simp only[qDD,qj4,qi];refine way (qjd a d b c) ?_;exact waE (qyP a b)
theorem qph(a b:T)(d:size a<=1000000000)(c:size b<=1000000000):Ev (λ m _=>JZ m a b) (zi a b):=by
 refine waG ?_;simp only[qBB,qi4,qi];refine way (qcd a d b c) ?_;exact waE (qyP a b)
end Go.AmZ
namespace Go.AmZ
open Go Go.GxZ Go.Lib
theorem qyE(a b:Int):ieq a b=decide (a=b):=by rw[xB,qk,decide_eq_true_iff]
theorem qA7(c:Int):Ev (λ m _=>qe1 m c) (qgN c):=by
 refine waG ?_;simp only[qAd,qhP];refine(waz (qgN c)).congr λ m k=>?_;grind [qgN,ile]
theorem qMG(c:Int):Ev (λ m _=>qjo m c) (qro c):=by
 refine waG ?_;simp only[qCe,qiU];refine(waz (qro c)).congr λ m k=>?_;grind [qro,ile]
theorem qHM(c:Int):Ev (λ m _=>qjH m c) (Qc c):=by
 refine waG ?_;simp only[qG1,qlT];refine(waz (Qc c)).congr λ m k=>?_;grind [Qc,qgN,qro,ile,qyE]
theorem qAt(l:List UInt8):Ev (λ m _=>J2 m l) (jT l):=by
 refine waG ?_;simp only[qz5,qeb];cases l with
 |nil=>exact waC rfl (waz _)
 |cons c r=>
   refine waD (qh.2 (by simp;omega)) ?_;refine waB (λ h=>?_) λ h=>?_
   .rw[qw]at h;refine waE ?_;grind [jT]
   rw[qx]at h;refine waA (J3 _) (way (qA7 _) ?_)
   have o:jT (c::r)=(qgN (c.toNat:Int)&&(c::r).all λ c=>Qc (c.toNat:Int)):=by
    grind [jT]
   rw[o];cases b:qgN (c.toNat:Int)with
   |false=>exact waC rfl (waz _)
   |true=>
     refine waD rfl ?_
     have g:=qt (P:=λ i=>Ev (λ m k=>JI m k (c::r) i) (((c::r).drop i).all λ c=>Qc (c.toNat:Int))) (c::r) (by omega)
      (λ b=>by
       refine waF ?_;simp only[qm4,qew];refine waD b (waE ?_);rw[wJ];rfl)
      (λ i x s q b a p d=>by
       refine waF ?_;simp only[qm4,qew];refine waC b (waA a (way (qA7 _) ?_));rw[q,wX,p];cases n:qgN (x.toNat:Int)with
       |true=>exact waD rfl (d.res (by simp[Qc,n]))
       |false=>
         refine waC rfl (waA a (way (qMG _) ?_));cases j:qro (x.toNat:Int)with
         |true=>exact waD rfl (d.res (by simp[Qc,j]))
         |false=>
           refine waC rfl (waA a ?_);by_cases f:(x.toNat:Int)=95
           .exact waD (bnf.2 (qk.2 f)) (d.res (by simp[Qc,f]))
           .refine waC (bnt.2 (qh.2 f)) (waA a ?_);by_cases e:(x.toNat:Int)=35
            .exact waD (bnf.2 (qk.2 e)) (d.res (by simp[Qc,e]))
            .exact waC (bnt.2 (qh.2 e)) (waE (by unfold Qc;rw[n,j,decide_eq_false f,decide_eq_false e];rfl)))
     refine waH (L:=λ m k=>JI m k (c::r) 0) ?_;exact(g 0 (wg _)).res (by rw[wH];rfl)
theorem qMI(c:Int):(Qc c&&(!(decide (48<=c)&&decide (c<=57))&&(!(decide (c=95)) && !(decide (c=35)))))=qgN c:=by
 grind [Qc,qro,qgN]
theorem qJo(l:List UInt8):Ev (λ m _=>qdY m l) (jT l):=by
 refine waG ?_;simp only[qBI,qft];cases l with
 |nil=>exact waC rfl (waz _)
 |cons c r=>
   refine waD rfl ?_;refine waB (λ h=>?_) λ h=>?_
   .rw[qw]at h;refine waE ?_;grind [jT]
   rw[qx]at h;refine waA (J3 _) (way (qHM _) ?_)
   have o:jT (c::r)=(qgN (c.toNat:Int)&&(c::r).all λ c=>Qc (c.toNat:Int)):=by
    grind [jT]
   rw[o,<-qMI]
   have e:=qt (P:=λ i=>Ev (λ m k=>QA m k (c::r) (c::r).length i) (((c::r).drop i).all λ c=>Qc (c.toNat:Int))) (c::r) (by omega)
    (λ f=>by
     refine waF ?_;simp only[qo1,qfS];refine waD f (waE ?_);rw[wJ];rfl)
    (λ i x y s f q p t=>by
     refine waF ?_;simp only[qo1,qfS];refine waC f (waA q (way (qHM _) ?_));rw[s,wX,p];cases w:Qc (x.toNat:Int)with
     |true=>exact waD rfl (t.res (by simp))
     |false=>exact waC rfl (waz _))
   have g:Ev (λ m _=>QA m m (c::r) (c::r).length 0) ((c::r).all λ c=>Qc (c.toNat:Int)):=by
    refine waH (L:=λ m k=>QA m k (c::r) (c::r).length 0) ?_;exact(e 0 (wg _)).res (by rw[wH])
   have a:qd (c::r) 0=some c:=J3 _
   have u:Ev (λ m _=>cond (ieq (c.toNat:Int) 95) (some false) (qb (qd (c::r) 0) λ v=>cond (ieq (v.toNat:Int) 35) (some false) (QA m m (c::r) (c::r).length 0))) ((!(decide ((c.toNat:Int)=95)) && !(decide ((c.toNat:Int)=35)))&&(c::r).all λ c=>Qc (c.toNat:Int)):=by
    by_cases d:(c.toNat:Int)=95
    .exact waC (qk.2 d) (waE (by rw[decide_eq_true d];rfl))
    .refine waD (qh.2 d) (waA a ?_);rw[decide_eq_false d];by_cases b:(c.toNat:Int)=35
     .exact waC (qk.2 b) (waE (by rw[decide_eq_true b];rfl))
     .refine waD (qh.2 b) (g.res ?_);rw[decide_eq_false b];rfl
   cases w:Qc (c.toNat:Int)with
   |false=>exact waC rfl (waz _)
   |true=>
     refine waD rfl (waA a ?_);by_cases n:48<=(c.toNat:Int)
     .refine waC (qaF.2 n) (waA a ?_);by_cases j:(c.toNat:Int)<=57
      .exact waC (qaF.2 j) (waE (by rw[decide_eq_true n,decide_eq_true j];rfl))
      .refine waD (JR.2 (by omega)) (waA a ?_);grind
     .refine waD (JR.2 (by omega)) (waA a ?_);grind
theorem qQM(t:T):Ev (λ m _=>qk7 m t) (jS t):=by
 refine waG ?_;simp only[qDG,qkg];unfold jS qjg
 have nm:∀{R:Int},(∀b,jT t.name=b->(if b then(if 8<t.kids.length then 3 else 0)else 2)=R)->Ev (λ m _=>qb (J2 m t.name) λ v=>cond (qg v) (some 2) (cond (ilt 8 (t.kids.length:Int)) (some 3) (some 0))) R:=by
  intro R h;refine way (qAt _) ?_;refine Ev.res ?_ (h _ rfl);cases j:jT t.name with
  |false=>exact waC rfl (waz _)
  |true=>
    refine waD rfl ?_;refine waB (λ h=>?_) λ h=>?_
    .rw[qw]at h;exact waE (by rw[if_pos rfl,if_pos (by omega)])
    .rw[qx]at h;exact waE (by rw[if_pos rfl,if_neg (by omega)])
 have g:t.kids.length=0->∀{R:Int},(∀b,jT t.name=b->(if b then 0 else 2)=R)->Ev (λ m _=>qb (J2 m t.name) λ v=>cond (qg v) (some 2) (cond (ilt 8 (t.kids.length:Int)) (some 3) (some 0))) R:=by
  grind
 by_cases f:t.kind=1
 .rw[if_pos (.inl f)];refine waC (qk.2 f) ?_;refine waB (λ h=>?_) λ h=>?_
  .rw[qw]at h;exact waE (by rw[if_pos (.inl h)])
  rw[qx]at h;refine waB (λ c=>?_) λ c=>?_
  .rw[qw]at c;exact waE (by rw[if_pos (.inr (.inl c))])
  rw[qx]at c;refine waB (λ a=>?_) λ a=>?_
  .rw[qw]at a;exact waE (by rw[if_pos (.inr (.inr (by omega)))])
  rw[qx]at a;grind
 refine waD (qh.2 f) ?_;by_cases d:t.kind=2
 .rw[if_pos (.inr d)];refine waD (bnf.2 (qk.2 d)) ?_;refine waB (λ h=>?_) λ h=>?_
  .rw[qw]at h;exact waE (by rw[if_pos (.inl h)])
  rw[qx]at h;refine waB (λ c=>?_) λ c=>?_
  .rw[qw]at c;exact waE (by rw[if_pos (.inr (.inl c))])
  rw[qx]at c;refine waD (bnf.2 (qk.2 d)) (waC (qk.2 d) ?_);refine waB (λ a=>?_) λ a=>?_
  .rw[qw]at a;exact waE (by rw[if_pos (.inr (.inr (by omega)))])
  rw[qx]at a;grind
 refine waC (bnt.2 (qh.2 d)) ?_;rw[if_neg (by omega)];by_cases e:t.kind=3
 .rw[if_pos e];refine waD (bnf.2 (qk.2 e)) ?_;refine waB (λ h=>?_) λ h=>?_
  .rw[qw]at h;exact waE (by rw[if_pos (by omega)])
  rw[qx]at h;refine waB (λ c=>?_) λ c=>?_
  .rw[qw]at c;exact waE (by rw[if_pos (by omega)])
  rw[qx]at c;refine waC (bnt.2 (qh.2 d)) ?_;refine waB (λ a=>?_) λ a=>?_
  .rw[bnt,qh]at a;exact waE (by rw[if_pos a])
  rw[bnf,qk]at a;rw[if_neg (by omega)];refine waD (qh.2 d) ?_;exact nm λ b i=>by rw[i]
 .rw[if_neg e];exact waC (bnt.2 (qh.2 e)) (waz _)
theorem qM8(t:T):size t<=1000000000->Ev (λ m _=>jO m t) (Qm t):=by
 induction t using T.ind with
 |h t d=>
   intro n;refine waG ?_;simp only[qBW,qfz,qi];have o:=yx t
   have a:=qt (P:=λ i=>Ev (λ m k=>qar m (jO m) k i t.kind t.name t.sort t.kids) (((t.kids.drop i).map Qm).foldl thn 0)) t.kids (by omega)
    (λ b=>by
     refine waF ?_;simp only[qou,qfj];refine waD b ?_;exact waE (by simp))
    (λ i x e j b g f l=>by
     refine waF ?_;simp only[qou,qfj,qi];refine waC b (waA g ?_);have c:=wb e;have p:=yu t x c;refine way (d x c (by omega)) ?_;rw[j,wk,QP,f];refine waB (λ h=>?_) λ h=>?_
     .rw[bnt,qh]at h;exact waE (by rw[qS _ h])
     .rw[bnf,qk]at h;rw[h];exact l)
   rw[qeS];refine way (qQM t) ?_;refine waB (λ h=>?_) λ h=>?_
   .rw[bnt,qh]at h;exact waE (by rw[qS _ h])
   .rw[bnf,qk]at h;rw[h];refine waH (L:=λ m k=>qar m (jO m) k 0 t.kind t.name t.sort t.kids) ?_;exact(a 0 (wg _)).res (by rw[wH])
theorem qaS(t:T)(a:size t<=1000000000):Ev (λ m _=>yA m t) (qB t):=by
 refine waG ?_;simp only[qCA,qi5,qi];unfold qB;refine way (qM8 t a) ?_;refine waB (λ h=>?_) λ h=>?_
 .rw[bnt,qh]at h;exact waE (by rw[if_pos h])
 rw[bnf,qk]at h;rw[if_neg (by omega)];refine way (qpO t a) ?_;refine waB (λ h=>?_) λ h=>?_
 .rw[qw]at h;exact waE (by rw[if_pos (.inl (by omega))])
 rw[qx]at h;refine way (qBg t a) ?_;refine waB (λ h=>?_) λ h=>?_
 .rw[qw]at h;exact waE (by rw[if_pos (.inr (by omega))])
 .rw[qx]at h;exact waE (by rw[if_neg (by omega)])
end Go.AmZ
namespace Go.AmZ
open Go Go.GxZ Go.Lib
theorem qEX(b d:Nat):∀(l:List Nat) (c:Nat),l.foldl (λ a x=>max a (b+x)) (max d (b+c))=max d (b+l.foldl max c)
 |[],c=>rfl
 |x::l,c=>by
   rw[ky,ky,<-qEX b d l (max c x)];congr 1;omega
def qSx(a n d:Nat)(e:Int)(s:Nat)(x:Nat)(r:(Int×Int×Unit)×(Int×Unit)):Prop:=r.2.1=e/\(e=0->r.1.1=((n+s:Nat):Int)/\r.1.2.1=((max d (a+x):Nat):Int))
theorem qNA(t:T):size t<=1000000000->∀c n d:Nat,c+size t<=2000000000->n+size t<=2000000000->d<=2000000000->∃r,Ev (λ m _=>yi m t c n d) r/\qSx c n d (Qm t) (size t) (qak t-1) r:=by
 induction t using T.ind with
 |h t U=>
   intro hs c n d N B aa;have hl:=yx t;have X:=qU t
   have G:=qt (P:=λ i=>∀n d:Nat,n+((t.kids.drop i).map size).sum<=2000000000->d<=2000000000->∃r,Ev (λ m k=>jK m (yi m) k c t.kids t.kids.length i n d) r/\r.2.1=((t.kids.drop i).map Qm).foldl thn 0/\(((t.kids.drop i).map Qm).foldl thn 0=0->r.1.1=((n+((t.kids.drop i).map size).sum:Nat):Int)/\r.1.2.1=((((t.kids.drop i).map qak).foldl (λ a x=>max a (c+x)) d:Nat):Int))) t.kids (by omega)
    (λ J n d _ _=>by
     refine⟨((n,d,()),(0,())),?_,?_,λ _=>⟨?_,?_⟩⟩
     .refine waF ?_;simp only[qqM,qgx];exact waD J (waz _)
     .simp
     .simp
     .simp)
    (λ i x W Q J hg Z hP n d B I=>by
     have M:=wb W;have q:=yu t x M;rw[qvK Q]at B;let⟨r,Y,C,V⟩:=U x M (by omega) (c+1) n d (by omega) (by omega) I
     have l:∀w ,(r.2.1≠0->w=((r.1.1,r.1.2.1,()),(r.2.1,())))->(r.2.1=0->Ev (λ m k=>jK m (yi m) k c t.kids t.kids.length ((i+1:Nat):Int) r.1.1 r.1.2.1) w)->Ev (λ m k=>jK m (yi m) k c t.kids t.kids.length i n d) w:=by
      intro w A u;refine waF ?_;simp only[qqM,qgx,qi];refine waC J (waA hg ?_);rw[show qf (c:Int) 1=((c+1:Nat):Int) by unfold qf;omega,jN (by omega),Z];refine way Y ?_;refine waB (λ h=>?_) λ h=>?_
      .rw[bnt,qh]at h;exact waE (A h).symm
      .rw[bnf,qk]at h;exact u h
     rw[Q,wk,wk,wk,kO,QP,ky];by_cases f:Qm x=0
     .let⟨S,R⟩:=V f;have O:=qHd x;let⟨w,A,u,g3⟩:=hP (n+size x) (max d (c+1+(qak x-1))) (by omega) (by omega);refine⟨w,l w (λ h=>absurd (C.trans f) h) (λ _=>by rw[S,R];exact A),by rw[f];exact u,λ o=>?_⟩;rw[f]at o;let⟨F,E⟩:=g3 o;refine⟨by rw[F];congr 1;omega,?_⟩;rw[E];have:qak x ≥ 1:=by rw[qiO];omega
      rw[show max d (c+1+(qak x-1))=max d (c+qak x) by omega]
     .refine⟨((r.1.1,r.1.2.1,()),(r.2.1,())),l _ (λ _=>rfl) (λ h=>absurd (C.symm.trans h) f),?_,λ o=>?_⟩
      .rw[qS _ f];exact C
      .rw[qS _ f]at o;exact absurd o f)
   have start:∀r,(jS t≠0->r=((((n+1:Nat):Int),((max d c:Nat):Int),()),(jS t,())))->(jS t=0->Ev (λ m _=>jK m (yi m) m c t.kids t.kids.length 0 ((n+1:Nat):Int) ((max d c:Nat):Int)) r)->Ev (λ m _=>yi m t c n d) r:=by
    intro r A u;refine waG ?_;simp only[qGh,qgD];rw[show qf (n:Int) 1=((n+1:Nat):Int) by unfold qf;omega,jN (by omega),qDP]
    have g:∀e,jS t=e->e≠0->Ev (λ _ _=>some ((((n+1:Nat):Int),((max d c:Nat):Int),()),(e,()))) r:=by
     intro e C h;refine waE ?_;subst C;exact(A h).symm
    have nm:(t.kind=3\/t.kids.length=0)->(∀b,jT t.name=b->(if b then(if 8<t.kids.length then 3 else 0)else 2)=jS t)->Ev (λ m _=>qb (qdY m t.name) λ v=>cond (qg v) (some ((((n+1:Nat):Int),((max d c:Nat):Int),()),(2,()))) (cond (ilt 8 (t.kids.length:Int)) (some ((((n+1:Nat):Int),((max d c:Nat):Int),()),(3,()))) (jK m (yi m) m c t.kids t.kids.length 0 ((n+1:Nat):Int) ((max d c:Nat):Int)))) r:=by
     intro _ h;have h:=h _ rfl;refine way (qJo _) ?_;cases B:jT t.name with
     |false=>rw[B]at h;exact waC rfl (g 2 h.symm (by decide))
     |true=>
       rw[B,if_pos rfl]at h;refine waD rfl ?_;refine waB (λ j=>?_) λ j=>?_
       .rw[qw]at j;rw[if_pos (by omega)]at h;exact g 3 h.symm (by decide)
       .rw[qx]at j;rw[if_neg (by omega)]at h;exact u h.symm
    have y:∀k,t.kind=k->(k=1\/k=2)->jS t=if t.sort<0\/5<t.sort\/0<t.kids.length then 1 else if jT t.name then 0 else 2:=by
     intro k H h;unfold jS qjg;rw[H,if_pos h]
    have s:∀k,t.kind=k->(k=1\/k=2)->Ev (λ m _=>cond (ilt t.sort 0) (some ((((n+1:Nat):Int),((max d c:Nat):Int),()),(1,()))) (cond (ilt 5 t.sort) (some ((((n+1:Nat):Int),((max d c:Nat):Int),()),(1,()))) (cond (ilt 0 (t.kids.length:Int)) (some ((((n+1:Nat):Int),((max d c:Nat):Int),()),(1,()))) (qb (qdY m t.name) λ v=>cond (qg v) (some ((((n+1:Nat):Int),((max d c:Nat):Int),()),(2,()))) (cond (ilt 8 (t.kids.length:Int)) (some ((((n+1:Nat):Int),((max d c:Nat):Int),()),(3,()))) (jK m (yi m) m c t.kids t.kids.length 0 ((n+1:Nat):Int) ((max d c:Nat):Int))))))) r:=by
     intro k H h;have p:=y k H h;refine waB (λ j=>?_) λ j=>?_
     .rw[qw]at j;exact g 1 (by rw[p,if_pos (.inl j)]) (by decide)
     rw[qx]at j;refine waB (λ q=>?_) λ q=>?_
     .rw[qw]at q;exact g 1 (by rw[p,if_pos (.inr (.inl q))]) (by decide)
     rw[qx]at q;refine waB (λ z=>?_) λ z=>?_
     .rw[qw]at z;exact g 1 (by rw[p,if_pos (.inr (.inr (by omega)))]) (by decide)
     rw[qx]at z;rw[if_neg (by omega)]at p;refine nm (.inr (by omega)) λ b K=>?_;rw[p,K,if_neg (show ¬ 8<t.kids.length by omega)]
    by_cases q:t.kind=1
    .exact waC (qk.2 q) (s 1 q (.inl rfl))
    refine waD (qh.2 q) ?_;by_cases z:t.kind=2
    .exact waC (qk.2 z) (s 2 z (.inr rfl))
    refine waD (qh.2 z) ?_;by_cases D:t.kind=3
    .refine waC (qk.2 D) ?_
     have p:jS t=if t.sort≠0 then 1 else if jT t.name then(if 8<t.kids.length then 3 else 0)else 2:=by
      unfold jS qjg;rw[if_neg (by omega),if_pos D]
     refine waB (λ j=>?_) λ j=>?_
     .rw[bnt,qh]at j;exact g 1 (by rw[p,if_pos j]) (by decide)
     rw[bnf,qk]at j;rw[if_neg (by omega)]at p;exact nm (.inl D) λ b K=>by rw[p,K]
    .refine waD (qh.2 D) ?_;refine g 1 ?_ (by decide);unfold jS qjg;rw[if_neg (by omega),if_neg D]
   rw[qeS];by_cases f:jS t=0
   .rw[f];let⟨r,A,u,g3⟩:=G 0 (wg _) (n+1) (max d c) (by rw[wH];omega) (by omega);rw[wH]at u g3;refine⟨r,start r (λ h=>absurd f h) (λ _=>waH (L:=λ m k=>jK m (yi m) k c t.kids t.kids.length 0 ((n+1:Nat):Int) ((max d c:Nat):Int)) A),u,λ o=>?_⟩;let⟨F,E⟩:=g3 o;refine⟨by rw[F];congr 1;omega,?_⟩;rw[E,show max d c=max d (c+0) by omega,qEX,qiO,vx]
   .refine⟨_,start _ (λ _=>rfl) (λ h=>absurd h f),?_,λ o=>?_⟩
    .rw[qS _ f]
    .rw[qS _ f]at o;exact absurd o f
theorem Jr(t:T)(c:size t<=1000000000):Ev (λ m _=>zj m t) (qB t):=by
 refine waG ?_;simp only[qEW,qj5,qi];unfold qB;let⟨r,f,e,d⟩:=qNA t c 1 0 0 (by omega) (by omega) (by omega);refine way f ?_;rw[e];refine waB (λ h=>?_) λ h=>?_
 .rw[bnt,qh]at h;exact waE (by rw[if_pos h])
 rw[bnf,qk]at h;let⟨b,a⟩:=d h;have g:qak t ≥ 1:=by rw[qiO];omega
 rw[if_neg (by omega),b,a];refine waB (λ h=>?_) λ h=>?_
 .rw[qw]at h;exact waE (by rw[if_pos (.inl (by omega))])
 rw[qx]at h;refine waB (λ h=>?_) λ h=>?_
 .rw[qw]at h;exact waE (by rw[if_pos (.inr (by omega))])
 .rw[qx]at h;exact waE (by rw[if_neg (by omega)])
theorem quK(t:T):size t<=1000000000->Ev (λ m _=>jG m t) t:=by
 induction t using T.ind with
 |h t e=>
   intro l;refine waG ?_;simp only[qD8,qgE];have n:=yx t
   have a:=qt (P:=λ i=>Ev (λ m k=>qbo m (jG m) k t.kids t.kids.length i t.kind t.name t.sort 0 [] 0 (t.kids.take i) []) t) t.kids (by omega)
    (λ b=>by
     refine waF ?_;simp only[qqI,qgq];refine waD b ?_;rw[wF];exact waE (qi t))
    (λ i x c o b g f j=>by
     refine waF ?_;simp only[qqI,qgq,qi];have d:=wb c;have p:=yu t x d;refine waC b (waA g (way (e x d (by omega)) (waC (zd ?_ (by omega)) ?_)))
     .have:(t.kids.take i).length<=t.kids.length:=by rw[wo];omega
      omega
     .rw[f];refine j.congr λ m k=>?_;rw[ko,c];rfl)
   refine waH (L:=λ m k=>qbo m (jG m) k t.kids t.kids.length 0 t.kind t.name t.sort 0 [] 0 [] []) ?_;exact a 0 (wg _)
def qsz:T->Prop:=T.para λ t a=>t.kids.length<2^62/\t.name.length<2^62/\∀p∈a,p
theorem qIA(t:T):qsz t↔t.kids.length<2^62/\t.name.length<2^62/\∀k∈t.kids,qsz k:=by
 unfold qsz;rw[T.para_eq];exact⟨λ⟨a,b,c⟩=>⟨a,b,λ k d=>c _ (kH d)⟩,λ⟨a,b,c⟩=>⟨a,b,λ p e=>by obtain⟨k,d,rfl⟩:=wC.1 e;exact c k d⟩⟩
theorem qMU{l:List T}{a:Int}(c:0<=a)(h:qpI l a=true):∀t∈l,(size t:Int)<=a:=λ t b=>by
 have e:=qAm l a c h;have d:=qk8 l t b;omega
end Go.AmZ
namespace Go.GxZ
def qv1(t:T):Int:=if(qE t.name).2.2=0 then 10 else if qnY jw t.name t.kids.length=false then 6 else if(qE t.name).2.2=2/\qlh t=false then 10 else 0
theorem qv0(n:List UInt8):(jw.find? λ r=>r.1==n)=none\/∃r∈jw,r.1=n/\(jw.find? λ r=>r.1==n)=some r:=by
 cases h:jw.find? λ r=>r.1==n with
 |none=>exact .inl rfl
 |some r=>exact .inr ⟨r,List.mem_of_find?_eq_some h,by simpa using List.find?_some h,rfl⟩
theorem qwN{n:List UInt8}(h:(jw.find? λ r=>r.1==n)=none):qE n=(0,0,0):=by unfold qE;rw[h];rfl
theorem qqC{n:List UInt8}{r:List UInt8×Int×Int×Int}(h:(jw.find? λ r=>r.1==n)=some r):qE n=r.2:=by unfold qE;rw[h];rfl
def qPG(r:List UInt8×Int×Int×Int):Bool:=
 decide (r.2.2.2≠0)&&decide (0<=r.2.1)&&decide (r.2.2.1<=8)&&(decide (r.2.2.2=2)==(r.1==qhV||r.1==nSk||r.1==qvt))&&(decide (r.2.2.2=2)==decide (r.2.2.2=2/\1<=r.2.1))&&(decide (r.2.2.2=3)==(r.1==qN8||r.1==qDS||r.1==qOg||r.1==qJv||r.1==qI2||r.1==qJ3))
theorem qQH:jw.all qPG=true:=by decide
theorem qwv{n:List UInt8}(h:(qE n).2.2≠0):qOE jw n=true/\qzk jw n=qE n/\0<=(qE n).1/\(qE n).2.1<=8/\((qE n).2.2=2↔n=qhV\/n=nSk\/n=qvt)/\((qE n).2.2=2->1<=(qE n).1)/\((qE n).2.2=3↔isD n=true):=by
 obtain b|⟨r,d,g,b⟩:=qv0 n
 .rw[qwN b]at h;exact absurd rfl h
 .have c:=ww.1 qQH r d;subst g;rw[qqC b];unfold qPG at c;simp only[wc,beq_iff_eq,decide_eq_true_eq]at c;let⟨⟨⟨⟨⟨l,k⟩,j⟩,a⟩,f⟩,i⟩:=c;refine⟨vJ.2 ⟨r,d,by simp⟩,qqC b,k,j,?_,?_,?_⟩
  .constructor
   .intro h;rw[decide_eq_true h]at a;have:=a.symm;simp only[wY,beq_iff_eq]at this;exact or_assoc.1 this
   .intro h;by_cases e:r.2.2.2=2
    .exact e
    .rw[decide_eq_false e]at a;have:=a.symm;simp only[xA,beq_eq_false_iff_ne]at this;obtain h|h|h:=h
     .exact absurd h this.1.1
     .exact absurd h this.1.2
     .exact absurd h this.2
  .intro h;rw[decide_eq_true h]at f;have:=of_decide_eq_true f.symm;exact this.2
  .unfold isD;rw[<-i];simp
theorem qPe(t:T)(n:t.kind=3):qv1 t=qcU t:=by
 unfold qv1 qcU;rw[if_neg (show ¬ (t.kind≠3)from λ h=>h n)];by_cases b:(qE t.name).2.2=0
 .rw[if_pos b,if_pos b]
 .rw[if_neg b,if_neg b];let⟨j,i,r,q,g,p,o⟩:=qwv b
  have e1:qnY jw t.name t.kids.length=(decide ((qE t.name).1<=(t.kids.length:Int))&&decide ((t.kids.length:Int)<=(qE t.name).2.1)):=by
   unfold qnY;rw[j,i,wV]
  rw[e1];by_cases e:(t.kids.length:Int)<(qE t.name).1\/(qE t.name).2.1<(t.kids.length:Int)
  .rw[if_pos e,if_pos];rw[vN,decide_eq_false_iff_not,decide_eq_false_iff_not];omega
  .rw[if_neg e,if_neg]
   .have f:(qE t.name).2.2=2/\qlh t=false↔qaP t=true:=by
      rw[g];unfold qlh qaP;by_cases a:t.name=qhV
      .rw[if_pos a,if_pos a];simp[a]
      .rw[if_neg a,if_neg a];by_cases c:t.name=nSk\/t.name=qvt
       .rw[if_pos c]
        have:agB t.kids = !(t.kids.any λ k=>decide (k.kind=3)||decide (k.sort≠1)):=by
         unfold agB;generalize t.kids=l
         induction l with
         |nil=>rfl
         |cons x l m=>simp only[wX,waw,m,Bool.not_or];congr 1;congr 1;by_cases h:x.sort=1<;>simp[bne,h]
        rw[this];simp[c]
       .rw[if_neg c];constructor
        .rintro⟨h,_⟩;obtain h|h:=h
         .exact absurd h a
         .exact absurd h c
        .intro h;cases h
    by_cases d:qaP t=true
    .rw[if_pos d,if_pos (f.2 d)]
    .rw[if_neg d,if_neg (λ h=>d (f.1 h))]
   .rw[vN,decide_eq_false_iff_not,decide_eq_false_iff_not];omega
theorem qhf{t:T}(e:t.kind=3)(h:zy t=0):qcU t=0/\(∀k∈t.kids,zy k=0):=by
 rw[qok,if_neg (show ¬ (t.kind≠3)from λ h=>h e)]at h;by_cases c:qcU t=0
 .refine⟨c,?_⟩;rw[c]at h;generalize t.kids=l at*
  induction l with
  |nil=>intro k a;cases a
  |cons x l d=>
    rw[wk,QP]at h;by_cases b:zy x=0
    .rw[b]at h;intro k a;obtain rfl|a:=wv.1 a
     .exact b
     .exact d h k a
    .rw[qS _ b]at h;exact absurd h b
 .rw[qS _ c]at h;exact absurd h c
end Go.GxZ

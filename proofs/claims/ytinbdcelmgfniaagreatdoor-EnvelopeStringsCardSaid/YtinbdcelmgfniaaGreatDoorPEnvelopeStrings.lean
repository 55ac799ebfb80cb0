/- EnvelopeStrings answers true for every two patterns and a term. The tables of the library that its row lists stand as the program's text lays them: the card ties them. -/

import Derived.Test.YtinbdcelmgfniaaGreatDoorM5
import Derived.Test.YtinbdcelmgfniaaGreatDoorM6
import Derived.LaidLaws
import Derived.LaidMore
import Derived.Lay
import Derived.MakeChecks
import Derived.Test.YtinbdcelmgfniaaGreatDoorCards
import Derived.LaidByTextLater
import Derived.LaidOnce
import Derived.SevenTiedAt
set_option linter.unusedVariables false
set_option linter.unusedSimpArgs false
set_option linter.defProp false
open Go renaming TypeId->aO,Value->ah
namespace Go.Proofs.YtinbdcelmgfniaaGreatDoor
open Go.ChangeShapes Go.WideShapes Go.ChangeAt Go.RowKit Go.GxZ
open Go.WideMaps Go.WideElems
open Go.ChangeMaps (setBlock shut_map_nil open_string shut_string keptBut_setBlock frozen?_setBlock heap_setBlock_same)
set_option maxRecDepth 100000 in
theorem qaX (os:Os) (started:os.Started) (H:Type) (enc:aO × ah->H) :
  ReturnsInHanded {} Tryz.checked os 9 .any (λ w args=>(Rows.envelopeStringsSpec.pre enc Tryz.prog Tryz.f9 Rows.envelopeStringsRow.domain false w args/\laidMetH Tryz.prog Rows.envelopeStringsRow.laid w)/\sizedMet enc Tryz.prog Tryz.f9 (OpenSpec.ofChange Rows.envelopeStringsSpec) false w args) (Rows.envelopeStringsSpec.post enc Tryz.prog Tryz.f9 false true false false):=by
 refine returnsInHanded_of_change_and (C:=Tryz.checked) (X := λ w _=>laidMetH Tryz.prog Rows.envelopeStringsRow.laid w) (λ _ _ _ hh h=>h.of_heap hh) Tryz.own started (by kernel_rfl) Tryz.func9
  (ChangeSpec.witness_shaped (enc:=enc) (C:=Tryz.checked) (os:=os) (X := λ w _=>laidMetH Tryz.prog Rows.envelopeStringsRow.laid w) false (World.laidAll Tryz.prog os Rows.envelopeStringsRow.laid) #[.agg #[.int .i64 0,.string ⟨#[]⟩,.int .i64 0,.slice none 0 0],.agg #[.int .i64 0,.string ⟨#[]⟩,.int .i64 0,.slice none 0 0],.agg #[.int .i64 0,.string ⟨#[]⟩,.int .i64 0,.slice none 0 0]] 8 (World.laidAll_os _ _ _)
   (World.shaped_of_ZipB (by kernel_rfl) (by kernel_rfl)) (by kernel_rfl) (by kernel_rfl) (by kernel_rfl)
   (by rw [MakeChecks.laidMetH_plain _ _ _ (by kernel_rfl)];exact laidMet_laidAll _ (by kernel_rfl) (by kernel_rfl))) ?_
 intro W bQ args ds gs before hval0 hW hcnd hsz0 hx1 hx2
 have hval:∀ (j:Nat) t v,Tryz.f9.params[j]? = some t->args[j]? = some v->Value.okWide Tryz.prog W .any bQ t v:=hval0
 have hW':=hW
 obtain ⟨p,q,hA0,hV,rfl,hfz,hnd⟩:=hW
 have hA:DataW.TrodAll enc Tryz.prog W 0 (λ _=>true) true Tryz.f9.params.toList args.toList ds p:=hA0
 rw [Tryz.params9] at hA hval
 obtain ⟨v0,vs0,d0,ds0,p0,q0,hargs,rfl,rfl,h0,r0⟩:=trodAll_cons hA
 obtain ⟨v1,vs1,d1,ds1,p1,q1,rfl,rfl,rfl,h1,r1⟩:=trodAll_cons r0
 obtain ⟨v2,vs2,d2,ds2,p2,q2,rfl,rfl,rfl,h2,r2⟩:=trodAll_cons r1
 obtain ⟨rfl,rfl,rfl⟩:=trodAll_nil r2
 obtain rfl:args = #[v0,v1,v2]:=by cases args;simp_all
 obtain ⟨rfl,rfl⟩:=trodVars_none hV
 have hsz:(DataW.weightsEach Tryz.prog [25,25,25] [d0,d1,d2]).all (· <= reachBytes)=true:=hsz0
 obtain ⟨x0,e0,f0⟩:=AmZ.arg_val (τ := .term) (n:=30) (by kernel_rfl) (by decide) (hval 0 25 v0 rfl rfl) h0 (λ k hk=>of_decide_eq_true (List.all_eq_true.1 hsz k (DataW.weights_mem_each (j:=0) rfl rfl k hk)))
 obtain ⟨x1,e1,f1⟩:=AmZ.arg_val (τ := .term) (n:=30) (by kernel_rfl) (by decide) (hval 1 25 v1 rfl rfl) h1 (λ k hk=>of_decide_eq_true (List.all_eq_true.1 hsz k (DataW.weights_mem_each (j:=1) rfl rfl k hk)))
 obtain ⟨x2,e2,f2⟩:=AmZ.arg_val (τ := .term) (n:=30) (by kernel_rfl) (by decide) (hval 2 25 v2 rfl rfl) h2 (λ k hk=>of_decide_eq_true (List.all_eq_true.1 hsz k (DataW.weights_mem_each (j:=2) rfl rfl k hk)))
 clear hA0 hval0
 have htb:AmZ.Tab (AmZ.ghW W) W:=AmZ.tab_laid (x:=("math/bits.deBruijn32tab",Rows.laid_math_bits_deBruijn32tab)) (y:=("math/bits.deBruijn64tab",Rows.laid_math_bits_deBruijn64tab)) (by kernel_rfl) (by kernel_rfl) (by first | exact hx1 | exact hx2)
 obtain ⟨B,hB⟩:=AmZ.envelopeStrings_ev x0 x1 x2 f0 f1 f2
 refine (AmZ.law_calls (c:=AmZ.tb.at (B+1)) (ts:=[.val (.term),.val (.term),.val (.term)]) (fn := λ x=>AmZ.law20_EnvelopeStrings (B+1) x.1 x.2.1 x.2.2.1) (a:=(x0,x1,x2,())) (AmZ.Tb.prim AmZ.tb_ok (B+1) (by kernel_rfl)) (by kernel_rfl) rfl (hB (B+1) (B+1) (Nat.le_succ _) (Nat.le_succ _)) htb (AmZ.RepL.cons e0 (AmZ.RepL.cons e1 (AmZ.RepL.cons e2 (AmZ.RepL.nil))))).mono λ e W' ⟨he,hb⟩=>?_
 exact ⟨_,he,qlR Tryz.laidOut rfl (by kernel_rfl) rfl rfl Tryz.underlying4 hW' rfl rfl rfl hb⟩
theorem PF:Rows.EnvelopeStringsSaid :=
 OpenClaim.holds_of_wide 9 Tryz.f9 rfl rfl rfl rfl rfl rfl rfl ⟨rfl,rfl,rfl,rfl,rfl⟩ rfl rfl rfl rfl rfl (by kernel_rfl) Tryz.func9 (by kernel_rfl)
  (of_decide_eq_true (by kernel_rfl)) (by unfold Func.isWrapper;first | (rw [if_pos (by decide +kernel)];kernel_rfl) | (rw [if_neg (by decide +kernel)];exact ⟨rfl,rfl⟩))
  (λ os started H enc _=>qaX os started H enc)
#print axioms PF
set_option maxRecDepth 100000 in
theorem qbi:Rows.envelopeStringsRow.laidByTextAt .later Tryz.pinned [.data,.data,.data] true :=
 OpenClaim.laidByTextAt_later rfl rfl (Program.laidByTextLater_by_one 24 8 65 (by kernel_rfl) (by kernel_rfl) (by kernel_rfl) (by kernel_rfl) (by kernel_rfl) (by kernel_rfl) (λ _ _=>by kernel_rfl)) (by kernel_rfl)
theorem envelopeStrings_card:Rows.EnvelopeStringsCardSaid :=
 Claim7.holds_tied_plain_at .later [] [.data,.data,.data] true Rows.envelopeStringsCard.stood.harness false PF (λ _ h=>by cases h) (by kernel_rfl) (λ _ h=>by cases h) qbi rfl ⟨rfl,rfl⟩ (by kernel_rfl) rfl
  (λ f fn hf hfn=>by
   obtain rfl:f=9:=Option.some.inj ((show Tryz.prog.funcNamed "sealring/sealringlaw20.EnvelopeStrings" = some 9 by kernel_rfl).symm.trans hf) |>.symm
   obtain rfl:fn=Tryz.f9:=(Option.some.inj (Tryz.func9.symm.trans hfn)).symm
   exact ⟨by kernel_rfl,λ j t ht=>by
    rw [Tryz.params9] at ht
    have hm:t∈[25,25,25]:=by simpa using Array.mem_of_getElem? ht
    have hall:([25,25,25].all λ u => !Tryz.prog.wantsStandIn u)=true:=by kernel_rfl
    exact (show Tryz.prog.wantsStandIn t=false by simpa using List.all_eq_true.1 hall t hm)⟩)
  (by kernel_rfl)
end Go.Proofs.YtinbdcelmgfniaaGreatDoor

/- EnvelopeTags answers true for every list of terms. The tables of the library that its row lists stand as the program's text lays them: the card ties them. -/

import Derived.Test.YtinbdcelmgfniaaGreatDoorM5
import Derived.LaidLaws
import Derived.LaidMore
import Derived.Lay
import Derived.MakeChecks
import Derived.Test.YtinbdcelmgfniaaGreatDoorCards
import Derived.LaidByTextLater
import Derived.LaidOnce
import Derived.SevenTiedAt
set_option linter.unusedVariables false
set_option linter.unusedSimpArgs false
namespace Go.Proofs.YtinbdcelmgfniaaGreatDoor
open Go.ChangeShapes Go.WideShapes Go.ChangeAt Go.RowKit Go.GxZ
open Go.WideMaps Go.WideElems
open Go.ChangeMaps (setBlock shut_map_nil open_string shut_string keptBut_setBlock frozen?_setBlock heap_setBlock_same)
set_option maxRecDepth 100000 in
theorem qk9 (os:Os) (started:os.Started) (H:Type) (enc:TypeId × Value->H) :
  ReturnsInHanded {} Tryz.checked os 7 .any (λ w args=>(Rows.envelopeTagsSpec.pre enc Tryz.prog Tryz.f7 Rows.envelopeTagsRow.domain false w args/\laidMetH Tryz.prog Rows.envelopeTagsRow.laid w)/\sizedMet enc Tryz.prog Tryz.f7 (OpenSpec.ofChange Rows.envelopeTagsSpec) false w args) (Rows.envelopeTagsSpec.post enc Tryz.prog Tryz.f7 false true false false):=by
 refine returnsInHanded_of_change_and (C:=Tryz.checked) (X := λ w _=>laidMetH Tryz.prog Rows.envelopeTagsRow.laid w) (λ _ _ _ hh h=>h.of_heap hh) Tryz.own started (by kernel_rfl) Tryz.func7
  (ChangeSpec.witness_shaped (enc:=enc) (C:=Tryz.checked) (os:=os) (X := λ w _=>laidMetH Tryz.prog Rows.envelopeTagsRow.laid w) false (World.laidAll Tryz.prog os Rows.envelopeTagsRow.laid) #[.slice none 0 0] 8 (World.laidAll_os _ _ _)
   (World.shaped_of_ZipB (by kernel_rfl) (by kernel_rfl)) (by kernel_rfl) (by kernel_rfl) (by kernel_rfl)
   (by rw [MakeChecks.laidMetH_plain _ _ _ (by kernel_rfl)];exact laidMet_laidAll _ (by kernel_rfl) (by kernel_rfl))) ?_
 intro W qS args ds gs before hval0 hW hcnd hsz0 hx1 hx2
 have hval:∀ (j:Nat) t v,Tryz.f7.params[j]? = some t->args[j]? = some v->Value.okWide Tryz.prog W .any qS t v:=hval0
 have hW':=hW
 obtain ⟨p,q,hA0,hV,rfl,hfz,hnd⟩:=hW
 have hA:DataW.TrodAll enc Tryz.prog W 0 (λ _=>true) true Tryz.f7.params.toList args.toList ds p:=hA0
 rw [Tryz.params7] at hA hval
 obtain ⟨v0,vs0,d0,ds0,p0,q0,hargs,rfl,rfl,h0,r0⟩:=trodAll_cons hA
 obtain ⟨rfl,rfl,rfl⟩:=trodAll_nil r0
 obtain rfl:args = #[v0]:=by cases args;simp_all
 obtain ⟨rfl,rfl⟩:=trodVars_none hV
 have hsz:(DataW.weightsEach Tryz.prog [23] [d0]).all (· <= reachBytes)=true:=hsz0
 obtain ⟨x0,e0,f0⟩:=AmZ.arg_val (τ := .list .term) (n:=30) (by kernel_rfl) (by decide) (hval 0 23 v0 rfl rfl) h0 (λ k hk=>of_decide_eq_true (List.all_eq_true.1 hsz k (DataW.weights_mem_each (j:=0) rfl rfl k hk)))
 clear hA0 hval0
 have htb:AmZ.Tab (AmZ.ghW W) W:=AmZ.tab_laid (x:=("math/bits.deBruijn32tab",Rows.laid_math_bits_deBruijn32tab)) (y:=("math/bits.deBruijn64tab",Rows.laid_math_bits_deBruijn64tab)) (by kernel_rfl) (by kernel_rfl) (by first | exact hx1 | exact hx2)
 obtain ⟨B,hB⟩:=AmZ.envelopeTags_ev x0 f0
 refine (AmZ.law_calls (c:=AmZ.tb.at (B+1)) (ts:=[.val (.list .term)]) (fn := λ x=>AmZ.law20_EnvelopeTags (B+1) x.1) (a:=(x0,())) (AmZ.Tb.prim AmZ.tb_ok (B+1) (by kernel_rfl)) (by kernel_rfl) rfl (hB (B+1) (B+1) (Nat.le_succ _) (Nat.le_succ _)) htb (AmZ.RepL.cons e0 (AmZ.RepL.nil))).mono λ e W' ⟨he,hb⟩=>?_
 exact ⟨_,he,qCy Tryz.laidOut rfl (by kernel_rfl) rfl rfl Tryz.underlying4 hW' rfl rfl rfl hb⟩
theorem qfa:Rows.EnvelopeTagsSaid :=
 OpenClaim.holds_of_wide 7 Tryz.f7 rfl rfl rfl rfl rfl rfl rfl ⟨rfl,rfl,rfl,rfl,rfl⟩ rfl rfl rfl rfl rfl (by kernel_rfl) Tryz.func7 (by kernel_rfl)
  (of_decide_eq_true (by kernel_rfl)) (by unfold Func.isWrapper;first | (rw [if_pos (by decide +kernel)];kernel_rfl) | (rw [if_neg (by decide +kernel)];exact ⟨rfl,rfl⟩))
  (λ os started H enc _=>qk9 os started H enc)
#print axioms qfa
set_option maxRecDepth 100000 in
theorem qnA:Rows.envelopeTagsRow.laidByTextAt .later Tryz.pinned [.data,.data,.data] true :=
 OpenClaim.laidByTextAt_later rfl rfl (Program.laidByTextLater_by_one 24 8 65 (by kernel_rfl) (by kernel_rfl) (by kernel_rfl) (by kernel_rfl) (by kernel_rfl) (by kernel_rfl) (λ _ _=>by kernel_rfl)) (by kernel_rfl)
theorem envelopeTags_card:Rows.EnvelopeTagsCardSaid :=
 Claim7.holds_tied_plain_at .later [] [.data,.data,.data] true Rows.envelopeTagsCard.stood.harness false qfa (λ _ h=>by cases h) (by kernel_rfl) (λ _ h=>by cases h) qnA rfl ⟨rfl,rfl⟩ (by kernel_rfl) rfl
  (λ f fn hf hfn=>by
   obtain rfl:f=7:=Option.some.inj ((show Tryz.prog.funcNamed "sealring/sealringlaw20.EnvelopeTags" = some 7 by kernel_rfl).symm.trans hf) |>.symm
   obtain rfl:fn=Tryz.f7:=(Option.some.inj (Tryz.func7.symm.trans hfn)).symm
   exact ⟨by kernel_rfl,λ j t ht=>by
    rw [Tryz.params7] at ht
    have hm:t∈[23]:=by simpa using Array.mem_of_getElem? ht
    have hall:([23].all λ u => !Tryz.prog.wantsStandIn u)=true:=by kernel_rfl
    exact (show Tryz.prog.wantsStandIn t=false by simpa using List.all_eq_true.1 hall t hm)⟩)
  (by kernel_rfl)
end Go.Proofs.YtinbdcelmgfniaaGreatDoor

/- EnvelopeFits answers true for every term and string. The tables of the library that its row lists stand as the program's text lays them: the card ties them. -/

import Derived.Test.YtinbdcelmgfniaaGreatDoorM6
import Derived.LaidLaws
import Derived.LaidMore
import Derived.Lay
import Derived.MakeChecks
import Derived.Test.YtinbdcelmgfniaaGreatDoorCards
import Derived.LaidByTextLater
import Derived.LaidOnce
import Derived.SevenTiedAt
set_option linter.unusedVariables false
set_option linter.unusedSimpArgs false
namespace Go.Proofs.YtinbdcelmgfniaaGreatDoor
open Go.ChangeShapes Go.WideShapes Go.ChangeAt Go.RowKit Go.GxZ
open Go.WideMaps Go.WideElems
open Go.ChangeMaps (setBlock shut_map_nil open_string shut_string keptBut_setBlock frozen?_setBlock heap_setBlock_same)
set_option maxRecDepth 100000 in
theorem qqW (os:Os) (started:os.Started) (H:Type) (enc:TypeId × Value->H) :
  ReturnsInHanded {} Tryz.checked os 8 .any (λ w args=>(Rows.envelopeFitsSpec.pre enc Tryz.prog Tryz.f8 Rows.envelopeFitsRow.domain false w args/\laidMetH Tryz.prog Rows.envelopeFitsRow.laid w)/\sizedMet enc Tryz.prog Tryz.f8 (OpenSpec.ofChange Rows.envelopeFitsSpec) false w args) (Rows.envelopeFitsSpec.post enc Tryz.prog Tryz.f8 false true false false):=by
 refine returnsInHanded_of_change_and (C:=Tryz.checked) (X := λ w _=>laidMetH Tryz.prog Rows.envelopeFitsRow.laid w) (λ _ _ _ hh h=>h.of_heap hh) Tryz.own started (by kernel_rfl) Tryz.func8
  (ChangeSpec.witness_shaped (enc:=enc) (C:=Tryz.checked) (os:=os) (X := λ w _=>laidMetH Tryz.prog Rows.envelopeFitsRow.laid w) false (World.laidAll Tryz.prog os Rows.envelopeFitsRow.laid) #[.agg #[.int .i64 0,.string ⟨#[]⟩,.int .i64 0,.slice none 0 0],.string ⟨#[]⟩] 8 (World.laidAll_os _ _ _)
   (World.shaped_of_ZipB (by kernel_rfl) (by kernel_rfl)) (by kernel_rfl) (by kernel_rfl) (by kernel_rfl)
   (by rw [MakeChecks.laidMetH_plain _ _ _ (by kernel_rfl)];exact laidMet_laidAll _ (by kernel_rfl) (by kernel_rfl))) ?_
 intro W zk args ds gs before hval0 hW hcnd hsz0 _ _
 have hval:∀ (j:Nat) t v,Tryz.f8.params[j]? = some t->args[j]? = some v->Value.okWide Tryz.prog W .any zk t v:=hval0
 have hW':=hW
 obtain ⟨p,q,hA0,hV,rfl,hfz,hnd⟩:=hW
 have hA:DataW.TrodAll enc Tryz.prog W 0 (λ _=>true) true Tryz.f8.params.toList args.toList ds p:=hA0
 rw [Tryz.params8] at hA hval
 obtain ⟨v0,vs0,d0,ds0,p0,q0,hargs,rfl,rfl,h0,r0⟩:=trodAll_cons hA
 obtain ⟨v1,vs1,d1,ds1,p1,q1,rfl,rfl,rfl,h1,r1⟩:=trodAll_cons r0
 obtain ⟨rfl,rfl,rfl⟩:=trodAll_nil r1
 obtain rfl:args = #[v0,v1]:=by cases args;simp_all
 obtain ⟨rfl,rfl⟩:=trodVars_none hV
 have hsz:(DataW.weightsEach Tryz.prog [25,9] [d0,d1]).all (· <= reachBytes)=true:=hsz0
 obtain ⟨x0,e0,f0⟩:=AmZ.arg_val (τ := .term) (n:=30) (by kernel_rfl) (by decide) (hval 0 25 v0 rfl rfl) h0 (λ k hk=>of_decide_eq_true (List.all_eq_true.1 hsz k (DataW.weights_mem_each (j:=0) rfl rfl k hk)))
 obtain ⟨x1,e1,f1⟩:=AmZ.arg_val (τ := .str) (n:=30) (by kernel_rfl) (by decide) (hval 1 9 v1 rfl rfl) h1 (λ k hk=>of_decide_eq_true (List.all_eq_true.1 hsz k (DataW.weights_mem_each (j:=1) rfl rfl k hk)))
 clear hA0 hval0
 obtain ⟨B,hB⟩:=AmZ.envelopeFits_ev x0 x1 f0 f1
 refine (AmZ.law_calls (c:=AmZ.tb.at (B+1)) (ts:=[.val (.term),.val (.str)]) (fn := λ x=>AmZ.law20_EnvelopeFits (B+1) x.1 x.2.1) (a:=(x0,x1,())) (AmZ.Tb.prim AmZ.tb_ok (B+1) (by kernel_rfl)) (by kernel_rfl) rfl (hB (B+1) (B+1) (Nat.le_succ _) (Nat.le_succ _)) (AmZ.RepL.cons e0 (AmZ.RepL.cons e1 (AmZ.RepL.nil)))).mono λ e W' ⟨he,hb⟩=>?_
 exact ⟨_,he,qMP Tryz.laidOut rfl (by kernel_rfl) rfl rfl Tryz.underlying4 hW' rfl rfl rfl hb⟩
theorem qjV:Rows.EnvelopeFitsSaid :=
 OpenClaim.holds_of_wide 8 Tryz.f8 rfl rfl rfl rfl rfl rfl rfl ⟨rfl,rfl,rfl,rfl,rfl⟩ rfl rfl rfl rfl rfl (by kernel_rfl) Tryz.func8 (by kernel_rfl)
  (of_decide_eq_true (by kernel_rfl)) (by unfold Func.isWrapper;first | (rw [if_pos (by decide +kernel)];kernel_rfl) | (rw [if_neg (by decide +kernel)];exact ⟨rfl,rfl⟩))
  (λ os started H enc _=>qqW os started H enc)
#print axioms qjV
set_option maxRecDepth 100000 in
theorem qtR:Rows.envelopeFitsRow.laidByTextAt .later Tryz.pinned [.data,.data,.data] true :=
 OpenClaim.laidByTextAt_later rfl rfl (Program.laidByTextLater_by_one 24 8 65 (by kernel_rfl) (by kernel_rfl) (by kernel_rfl) (by kernel_rfl) (by kernel_rfl) (by kernel_rfl) (λ _ _=>by kernel_rfl)) (by kernel_rfl)
theorem envelopeFits_card:Rows.EnvelopeFitsCardSaid :=
 Claim7.holds_tied_plain_at .later [] [.data,.data,.data] true Rows.envelopeFitsCard.stood.harness false qjV (λ _ h=>by cases h) (by kernel_rfl) (λ _ h=>by cases h) qtR rfl ⟨rfl,rfl⟩ (by kernel_rfl) rfl
  (λ f fn hf hfn=>by
   obtain rfl:f=8:=Option.some.inj ((show Tryz.prog.funcNamed "sealring/sealringlaw20.EnvelopeFits" = some 8 by kernel_rfl).symm.trans hf) |>.symm
   obtain rfl:fn=Tryz.f8:=(Option.some.inj (Tryz.func8.symm.trans hfn)).symm
   exact ⟨by kernel_rfl,λ j t ht=>by
    rw [Tryz.params8] at ht
    have hm:t∈[25,9]:=by simpa using Array.mem_of_getElem? ht
    have hall:([25,9].all λ u => !Tryz.prog.wantsStandIn u)=true:=by kernel_rfl
    exact (show Tryz.prog.wantsStandIn t=false by simpa using List.all_eq_true.1 hall t hm)⟩)
  (by kernel_rfl)
end Go.Proofs.YtinbdcelmgfniaaGreatDoor

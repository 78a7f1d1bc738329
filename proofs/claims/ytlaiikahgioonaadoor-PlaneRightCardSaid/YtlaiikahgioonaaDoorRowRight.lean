/- PlaneRight returns true for every box, and its argument reads as before. Condition: package api's errors start as the program's text lays them (tied by the card). -/
import Derived.Test.YtlaiikahgioonaaDoorFrame
import Derived.Test.YtlaiikahgioonaaDoorLawA
import Derived.Test.YtlaiikahgioonaaDoorCards
import Derived.Test.YtlaiikahgioonaaDoorTie
namespace Go.Proofs.YtlaiikahgioonaaDoor
set_option linter.unusedSimpArgs false
set_option linter.unusedVariables false
open Go.ChangeShapes Go.WideShapes Go.ChangeAt Go.RowKit

theorem planeRight_door (os : Os) (args : Array Value) : laidMetH Tryd.prog Rows.planeRightRow.laid ((World.doorLaid Tryd.prog 400 os).forCall (fun _ _ => 0) ⟨#[], args, []⟩).memory :=
  laidMetH_of_parts3 (fuel := 8) (laidMet_of_run' 8 (by kernel_rfl) (by kernel_rfl)) (by kernel_rfl) (by kernel_rfl)

set_option maxRecDepth 100000 in
theorem planeRight_lifted (os : Os) (started : os.Started) (H : Type) (enc : TypeId × Value → H) :
    ReturnsInHanded {} Tryd.checked os 3 .any (fun w args => (Rows.planeRightSpec.pre enc Tryd.prog Tryd.f3 [] false w args ∧ laidMetH Tryd.prog Rows.planeRightRow.laid w) ∧ sizedMet enc Tryd.prog Tryd.f3 (OpenSpec.ofChange Rows.planeRightSpec) false w args)
      (Rows.planeRightSpec.post enc Tryd.prog Tryd.f3 false true false false) := by
  refine returnsInHanded_of_change_and (C := Tryd.checked) (X := fun w _ => laidMetH Tryd.prog Rows.planeRightRow.laid w) (fun _ _ _ hh h => h.of_heap hh) own started (by kernel_rfl) Tryd.func3
    (ChangeSpec.witness_shaped (enc := enc) (C := Tryd.checked) (os := os) (X := fun w _ => laidMetH Tryd.prog Rows.planeRightRow.laid w) false (World.doorLaid Tryd.prog 400 os) #[.agg #[.int .i64 0, .int .i64 0, .int .i64 0, .int .i64 0]] 8 rfl (World.shaped_of_RefB (by kernel_rfl) (by kernel_rfl)) (by kernel_rfl) (by kernel_rfl) (by kernel_rfl) (planeRight_door os _)) ?_
  intro W base args ds gs before hval0 hW _ _ hL _
  have hval : ∀ (j : Nat) t v, Tryd.f3.params[j]? = some t → args[j]? = some v → Value.okWide Tryd.prog W .any base t v := hval0
  have hW' := hW
  obtain ⟨p, q, hA0, hV, rfl, hfz, hnd⟩ := hW
  have hA : DataW.TrodAll enc Tryd.prog W 0 (fun _ => true) true Tryd.f3.params.toList args.toList ds p := hA0
  rw [Tryd.params3] at hA hval
  obtain ⟨v0, d0, rfl, rfl, h0⟩ := trodAll_one hA
  obtain ⟨rfl, rfl⟩ := trodVars_none hV
  obtain ⟨x0a, x0b, x0c, x0d, rfl⟩ := box_open (hval 0 23 v0 rfl rfl) h0
  clear hA0 hval0 hval h0 hA
  refine (planeRight_any x0a x0b x0c x0d W).mono fun e W' ⟨he, hg⟩ => ?_
  exact ⟨_, he, law_post rfl hW' rfl rfl (by rw [Tryd.params3]; intro t ht; simp only [List.mem_cons, List.not_mem_nil, or_false] at ht; rcases ht with rfl <;> exact ⟨by kernel_rfl, by decide⟩) hg⟩

theorem planeRight_holds : Rows.PlaneRightSaid :=
  OpenClaim.holds_of_wide 3 Tryd.f3 rfl rfl rfl rfl rfl rfl rfl ⟨rfl, rfl, rfl, rfl, rfl⟩ rfl rfl rfl rfl rfl (by kernel_rfl) Tryd.func3 (by kernel_rfl)
    (of_decide_eq_true (by kernel_rfl)) (by unfold Func.isWrapper; rw [if_neg (of_decide_eq_false (by kernel_rfl))]; exact ⟨rfl, rfl⟩)
    (fun os started H enc _ => planeRight_lifted os started H enc)

theorem planeRight_card : Rows.PlaneRightCardSaid :=
  Claim7.holds_tied_plain_at .later [] [.sentinel] true (true, "654c390da7707ca8ab7c17b26ba99179f0dd33cffdb5c5ca3df430fb19258ac2") true
    planeRight_holds (fun _ h => by cases h) (by kernel_rfl) (fun _ h => by cases h) planeRight_row_tie rfl ⟨rfl, rfl⟩ (by kernel_rfl) rfl
    (fun f fn hf hfn => by
      obtain rfl : f = 3 := Option.some.inj ((show Tryd.prog.funcNamed "paddock/paddocklaw01.PlaneRight" = some 3 by kernel_rfl).symm.trans hf) |>.symm
      obtain rfl : fn = Tryd.f3 := (Option.some.inj (Tryd.func3.symm.trans hfn)).symm
      exact ⟨by kernel_rfl, fun j t ht => by
          rw [Tryd.params3] at ht
          rcases j with _ | j
          · obtain rfl : t = 23 := by simpa using ht.symm
            exact (show Tryd.prog.wantsStandIn 23 = false by kernel_rfl)
          simp at ht⟩)
    (by kernel_rfl)
#print axioms planeRight_card
end Go.Proofs.YtlaiikahgioonaaDoor

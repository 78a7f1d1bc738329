/- PlaneWithin returns true for every three boxes, and its arguments read as before. Condition: package api's errors start as the program's text lays them (tied by the card). -/
import Derived.Test.YtlaiikahgioonaaDoorFrame
import Derived.Test.YtlaiikahgioonaaDoorLawF
import Derived.Test.YtlaiikahgioonaaDoorCards
import Derived.Test.YtlaiikahgioonaaDoorTie
namespace Go.Proofs.YtlaiikahgioonaaDoor
set_option linter.unusedSimpArgs false
set_option linter.unusedVariables false
open Go.ChangeShapes Go.WideShapes Go.ChangeAt Go.RowKit

theorem planeWithin_door (os : Os) (args : Array Value) : laidMetH Tryd.prog Rows.planeWithinRow.laid ((World.doorLaid Tryd.prog 400 os).forCall (fun _ _ => 0) ⟨#[], args, []⟩).memory :=
  laidMetH_of_parts3 (fuel := 8) (laidMet_of_run' 8 (by kernel_rfl) (by kernel_rfl)) (by kernel_rfl) (by kernel_rfl)

set_option maxRecDepth 100000 in
theorem planeWithin_lifted (os : Os) (started : os.Started) (H : Type) (enc : TypeId × Value → H) :
    ReturnsInHanded {} Tryd.checked os 8 .any (fun w args => (Rows.planeWithinSpec.pre enc Tryd.prog Tryd.f8 [] false w args ∧ laidMetH Tryd.prog Rows.planeWithinRow.laid w) ∧ sizedMet enc Tryd.prog Tryd.f8 (OpenSpec.ofChange Rows.planeWithinSpec) false w args)
      (Rows.planeWithinSpec.post enc Tryd.prog Tryd.f8 false true false false) := by
  refine returnsInHanded_of_change_and (C := Tryd.checked) (X := fun w _ => laidMetH Tryd.prog Rows.planeWithinRow.laid w) (fun _ _ _ hh h => h.of_heap hh) own started (by kernel_rfl) Tryd.func8
    (ChangeSpec.witness_shaped (enc := enc) (C := Tryd.checked) (os := os) (X := fun w _ => laidMetH Tryd.prog Rows.planeWithinRow.laid w) false (World.doorLaid Tryd.prog 400 os) #[.agg #[.int .i64 0, .int .i64 0, .int .i64 0, .int .i64 0], .agg #[.int .i64 0, .int .i64 0, .int .i64 0, .int .i64 0], .agg #[.int .i64 0, .int .i64 0, .int .i64 0, .int .i64 0]] 8 rfl (World.shaped_of_RefB (by kernel_rfl) (by kernel_rfl)) (by kernel_rfl) (by kernel_rfl) (by kernel_rfl) (planeWithin_door os _)) ?_
  intro W base args ds gs before hval0 hW _ _ hL _
  have hval : ∀ (j : Nat) t v, Tryd.f8.params[j]? = some t → args[j]? = some v → Value.okWide Tryd.prog W .any base t v := hval0
  have hW' := hW
  obtain ⟨p, q, hA0, hV, rfl, hfz, hnd⟩ := hW
  have hA : DataW.TrodAll enc Tryd.prog W 0 (fun _ => true) true Tryd.f8.params.toList args.toList ds p := hA0
  rw [Tryd.params8] at hA hval
  obtain ⟨v0, v1, v2, d0, d1, d2, p0, p1, p2, rfl, rfl, rfl, h0, h1, h2⟩ := trodAll_three hA
  obtain ⟨rfl, rfl⟩ := trodVars_none hV
  obtain ⟨x0a, x0b, x0c, x0d, rfl⟩ := box_open (hval 0 23 v0 rfl rfl) h0
  obtain ⟨x1a, x1b, x1c, x1d, rfl⟩ := box_open (hval 1 23 v1 rfl rfl) h1
  obtain ⟨x2a, x2b, x2c, x2d, rfl⟩ := box_open (hval 2 23 v2 rfl rfl) h2
  clear hA0 hval0 hval h0 h1 h2 hA
  refine (planeWithin_any x0a x0b x0c x0d x1a x1b x1c x1d x2a x2b x2c x2d W).mono fun e W' ⟨he, hg⟩ => ?_
  exact ⟨_, he, law_post rfl hW' rfl rfl (by rw [Tryd.params8]; intro t ht; simp only [List.mem_cons, List.not_mem_nil, or_false] at ht; rcases ht with rfl | rfl | rfl <;> exact ⟨by kernel_rfl, by decide⟩) hg⟩

theorem planeWithin_holds : Rows.PlaneWithinSaid :=
  OpenClaim.holds_of_wide 8 Tryd.f8 rfl rfl rfl rfl rfl rfl rfl ⟨rfl, rfl, rfl, rfl, rfl⟩ rfl rfl rfl rfl rfl (by kernel_rfl) Tryd.func8 (by kernel_rfl)
    (of_decide_eq_true (by kernel_rfl)) (by unfold Func.isWrapper; rw [if_neg (of_decide_eq_false (by kernel_rfl))]; exact ⟨rfl, rfl⟩)
    (fun os started H enc _ => planeWithin_lifted os started H enc)

theorem planeWithin_card : Rows.PlaneWithinCardSaid :=
  Claim7.holds_tied_plain_at .later [] [.sentinel, .sentinel, .sentinel] true (true, "654c390da7707ca8ab7c17b26ba99179f0dd33cffdb5c5ca3df430fb19258ac2") true
    planeWithin_holds (fun _ h => by cases h) (by kernel_rfl) (fun _ h => by cases h) planeWithin_row_tie rfl ⟨rfl, rfl⟩ (by kernel_rfl) rfl
    (fun f fn hf hfn => by
      obtain rfl : f = 8 := Option.some.inj ((show Tryd.prog.funcNamed "paddock/paddocklaw01.PlaneWithin" = some 8 by kernel_rfl).symm.trans hf) |>.symm
      obtain rfl : fn = Tryd.f8 := (Option.some.inj (Tryd.func8.symm.trans hfn)).symm
      exact ⟨by kernel_rfl, fun j t ht => by
          rw [Tryd.params8] at ht
          rcases j with _ | j
          · obtain rfl : t = 23 := by simpa using ht.symm
            exact (show Tryd.prog.wantsStandIn 23 = false by kernel_rfl)
          rcases j with _ | j
          · obtain rfl : t = 23 := by simpa using ht.symm
            exact (show Tryd.prog.wantsStandIn 23 = false by kernel_rfl)
          rcases j with _ | j
          · obtain rfl : t = 23 := by simpa using ht.symm
            exact (show Tryd.prog.wantsStandIn 23 = false by kernel_rfl)
          simp at ht⟩)
    (by kernel_rfl)
#print axioms planeWithin_card
end Go.Proofs.YtlaiikahgioonaaDoor

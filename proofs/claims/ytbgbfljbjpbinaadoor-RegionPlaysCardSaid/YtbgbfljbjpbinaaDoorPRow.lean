/- RegionPlays returns true for every grid, script and number, and its arguments read as before. Condition: package api's errors start as the program's text lays them (tied by the card). -/
import Derived.Test.YtbgbfljbjpbinaaDoorFrame
import Derived.Test.YtbgbfljbjpbinaaDoorPE
import Derived.Test.YtbgbfljbjpbinaaDoorCards
import Derived.Test.YtbgbfljbjpbinaaDoorTie
namespace Go.Proofs.YtbgbfljbjpbinaaDoor
set_option linter.unusedSimpArgs false
set_option linter.unusedVariables false
open Go.ChangeShapes Go.WideShapes Go.ChangeAt Go.RowKit

theorem regionPlays_door (os : Os) (args : Array Value) : laidMetH Tryd.prog Rows.regionPlaysRow.laid ((World.doorLaid Tryd.prog 400 os).forCall (fun _ _ => 0) ⟨#[], args, []⟩).memory :=
  laidMetH_of_parts3 (fuel := 8) (laidMet_of_run' 8 (by kernel_rfl) (by kernel_rfl)) (by kernel_rfl) (by kernel_rfl)

set_option maxRecDepth 100000 in
theorem regionPlays_lifted (os : Os) (started : os.Started) (H : Type) (enc : TypeId × Value → H) :
    ReturnsInHanded {} Tryd.checked os 12 .any (fun w args => (Rows.regionPlaysSpec.pre enc Tryd.prog Tryd.f12 [] false w args ∧ laidMetH Tryd.prog Rows.regionPlaysRow.laid w) ∧ sizedMet enc Tryd.prog Tryd.f12 (OpenSpec.ofChange Rows.regionPlaysSpec) false w args)
      (Rows.regionPlaysSpec.post enc Tryd.prog Tryd.f12 false true false false) := by
  refine returnsInHanded_of_change_and (C := Tryd.checked) (X := fun w _ => laidMetH Tryd.prog Rows.regionPlaysRow.laid w) (fun _ _ _ hh h => h.of_heap hh) own started (by kernel_rfl) Tryd.func12
    (ChangeSpec.witness_shaped (enc := enc) (C := Tryd.checked) (os := os) (X := fun w _ => laidMetH Tryd.prog Rows.regionPlaysRow.laid w) false (World.doorLaid Tryd.prog 400 os) #[.agg #[.int .i64 0, .int .i64 0, .int .i64 0, .int .i64 0, .int .i64 0], .slice none 0 0, .int .i64 0] 8 rfl (World.shaped_of_RefB (by kernel_rfl) (by kernel_rfl)) (by kernel_rfl) (by kernel_rfl) (by kernel_rfl) (regionPlays_door os _)) ?_
  intro W base args ds gs before hval0 hW _ _ hL _
  have hval : ∀ (j : Nat) t v, Tryd.f12.params[j]? = some t → args[j]? = some v → Value.okWide Tryd.prog W .any base t v := hval0
  have hW' := hW
  obtain ⟨p, q, hA0, hV, rfl, hfz, hnd⟩ := hW
  have hA : DataW.TrodAll enc Tryd.prog W 0 (fun _ => true) true Tryd.f12.params.toList args.toList ds p := hA0
  rw [Tryd.params12] at hA hval
  obtain ⟨v0, v1, v2, d0, d1, d2, p0, p1, p2, rfl, rfl, rfl, h0, h1, h2⟩ := trodAll_three hA
  obtain ⟨rfl, rfl⟩ := trodVars_none hV
  obtain ⟨x0a, x0b, x0c, x0d, x0e, rfl⟩ := grid_open (hval 0 23 v0 rfl rfl) h0
  obtain ⟨x1, n1, c1, rfl⟩ := okWide_slice Tryd.underlying78 (hval 1 78 v1 rfl rfl)
  obtain ⟨fu1, h1⟩ := h1
  have q1 := ops15_open h1
  obtain ⟨x2a, rfl, _, _, _⟩ := open_int Tryd.underlying3 (hval 2 3 v2 rfl rfl) h2
  obtain ⟨ad, hE⟩ := errs_of_laid hL
  clear hA0 hval0 hval h0 h1 h2 hA
  refine (regionPlays_any x0a x0b x0c x0d x0e x2a x1 n1 c1 W ad hE q1).mono fun e W' ⟨he, hg⟩ => ?_
  exact ⟨_, he, law_post rfl hW' rfl rfl (by rw [Tryd.params12]; intro t ht; simp only [List.mem_cons, List.not_mem_nil, or_false] at ht; rcases ht with rfl | rfl | rfl <;> exact ⟨by kernel_rfl, by decide⟩) hg⟩

theorem regionPlays_holds : Rows.RegionPlaysSaid :=
  OpenClaim.holds_of_wide 12 Tryd.f12 rfl rfl rfl rfl rfl rfl rfl ⟨rfl, rfl, rfl, rfl, rfl⟩ rfl rfl rfl rfl rfl (by kernel_rfl) Tryd.func12 (by kernel_rfl)
    (of_decide_eq_true (by kernel_rfl)) (by unfold Func.isWrapper; rw [if_neg (of_decide_eq_false (by kernel_rfl))]; exact ⟨rfl, rfl⟩)
    (fun os started H enc _ => regionPlays_lifted os started H enc)

theorem regionPlays_card : Rows.RegionPlaysCardSaid :=
  Claim7.holds_tied_plain_at .later [] [.sentinel, .sentinel, .sentinel, .sentinel, .sentinel, .sentinel, .sentinel, .sentinel, .sentinel, .sentinel] true (true, "c807fba6d365b111819c830a4bc7f4aeb67f6025bdf50efbf1769e3d160864c9") true
    regionPlays_holds (fun _ h => by cases h) (by kernel_rfl) (fun _ h => by cases h) regionPlays_row_tie rfl ⟨rfl, rfl⟩ (by kernel_rfl) rfl
    (fun f fn hf hfn => by
      obtain rfl : f = 12 := Option.some.inj ((show Tryd.prog.funcNamed "paddock/paddocklaw15.RegionPlays" = some 12 by kernel_rfl).symm.trans hf) |>.symm
      obtain rfl : fn = Tryd.f12 := (Option.some.inj (Tryd.func12.symm.trans hfn)).symm
      exact ⟨by kernel_rfl, fun j t ht => by
          rw [Tryd.params12] at ht
          rcases j with _ | j
          · obtain rfl : t = 23 := by simpa using ht.symm
            exact (show Tryd.prog.wantsStandIn 23 = false by kernel_rfl)
          rcases j with _ | j
          · obtain rfl : t = 78 := by simpa using ht.symm
            exact (show Tryd.prog.wantsStandIn 78 = false by kernel_rfl)
          rcases j with _ | j
          · obtain rfl : t = 3 := by simpa using ht.symm
            exact (show Tryd.prog.wantsStandIn 3 = false by kernel_rfl)
          simp at ht⟩)
    (by kernel_rfl)
#print axioms regionPlays_card
end Go.Proofs.YtbgbfljbjpbinaaDoor

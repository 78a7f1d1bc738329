/- TilesUnder returns true for every grid and box, and its arguments read as before. Condition: package api's errors that it names start as the program's text lays them (tied by the card). -/
import Derived.Test.YtbgbfljbjpbinaaDoorFrame
import Derived.Test.YtbgbfljbjpbinaaDoorAlive14
import Derived.Test.YtbgbfljbjpbinaaDoorFrame2
import Derived.Test.YtbgbfljbjpbinaaDoorCards
import Derived.Test.YtbgbfljbjpbinaaDoorTie
namespace Go.Proofs.YtbgbfljbjpbinaaDoor
set_option linter.unusedSimpArgs false
set_option linter.unusedVariables false
open Go.ChangeShapes Go.WideShapes Go.ChangeAt Go.RowKit

theorem tilesUnder_of_laid {W : World} (h : laidMetH Tryd.prog Rows.tilesUnderRow.laid W) : ∃ r0 : Addr, W.cell? ⟨1, 0, none⟩ = some (.iface 130 (.pointer (some r0))) := by
  have h : laidMetH Tryd.prog [("paddock/api.ErrRange", Rows.laid_paddock_api_ErrRange)] W := h
  rw [MakeChecks.laidMetH_plain _ _ _ (by kernel_rfl)] at h
  obtain ⟨ps, hl, hnd, hrows⟩ := h
  obtain ⟨al, hlen, _, _, hall⟩ := laid_list [errList.getD 0 ("", 0, [])] ps (by
    intro x hx
    simp only [errList, List.getD_cons_zero, List.getD_cons_succ, List.mem_cons, List.not_mem_nil, or_false] at hx
    rcases hx with rfl <;> exact ⟨by kernel_rfl, by kernel_rfl⟩) hl hnd hrows
  match al, hlen with
  | [r0], _ => exact ⟨r0, (hall 0 _ r0 rfl rfl).1⟩

theorem tilesUnder_door (os : Os) (args : Array Value) : laidMetH Tryd.prog Rows.tilesUnderRow.laid ((World.doorLaid Tryd.prog 400 os).forCall (fun _ _ => 0) ⟨#[], args, []⟩).memory :=
  laidMetH_of_parts3 (fuel := 8) (laidMet_of_run' 8 (by kernel_rfl) (by kernel_rfl)) (by kernel_rfl) (by kernel_rfl)

set_option maxRecDepth 100000 in
theorem tilesUnder_lifted (os : Os) (started : os.Started) (H : Type) (enc : TypeId × Value → H) :
    ReturnsInHanded {} Tryd.checked os 3 .any (fun w args => (Rows.tilesUnderSpec.pre enc Tryd.prog Tryd.f3 [] false w args ∧ laidMetH Tryd.prog Rows.tilesUnderRow.laid w) ∧ sizedMet enc Tryd.prog Tryd.f3 (OpenSpec.ofChange Rows.tilesUnderSpec) false w args)
      (Rows.tilesUnderSpec.post enc Tryd.prog Tryd.f3 false true false false) := by
  refine returnsInHanded_of_change_and (C := Tryd.checked) (X := fun w _ => laidMetH Tryd.prog Rows.tilesUnderRow.laid w) (fun _ _ _ hh h => h.of_heap hh) own started (by kernel_rfl) Tryd.func3
    (ChangeSpec.witness_shaped (enc := enc) (C := Tryd.checked) (os := os) (X := fun w _ => laidMetH Tryd.prog Rows.tilesUnderRow.laid w) false (World.doorLaid Tryd.prog 400 os) #[.agg #[.int .i64 0, .int .i64 0, .int .i64 0, .int .i64 0, .int .i64 0], .agg #[.int .i64 0, .int .i64 0, .int .i64 0, .int .i64 0]] 8 rfl (World.shaped_of_RefB (by kernel_rfl) (by kernel_rfl)) (by kernel_rfl) (by kernel_rfl) (by kernel_rfl) (tilesUnder_door os _)) ?_
  intro W base args ds gs before hval0 hW _ _ hL _
  have hval : ∀ (j : Nat) t v, Tryd.f3.params[j]? = some t → args[j]? = some v → Value.okWide Tryd.prog W .any base t v := hval0
  have hW' := hW
  obtain ⟨p, q, hA0, hV, rfl, hfz, hnd⟩ := hW
  have hA : DataW.TrodAll enc Tryd.prog W 0 (fun _ => true) true Tryd.f3.params.toList args.toList ds p := hA0
  rw [Tryd.params3] at hA hval
  obtain ⟨v0, v1, d0, d1, p0, p1, rfl, rfl, rfl, h0, h1⟩ := trodAll_two hA
  obtain ⟨rfl, rfl⟩ := trodVars_none hV
  obtain ⟨x0a, x0b, x0c, x0d, x0e, rfl⟩ := grid_open (hval 0 23 v0 rfl rfl) h0
  obtain ⟨x1a, x1b, x1c, x1d, rfl⟩ := box_open (hval 1 25 v1 rfl rfl) h1
  obtain ⟨r0, hg0⟩ := tilesUnder_of_laid hL
  clear hA0 hval0 hval h0 h1 hA
  refine (tilesUnder_any x0a x0b x0c x0d x0e x1a x1b x1c x1d W r0 hg0).mono fun e W' ⟨he, hg⟩ => ?_
  exact ⟨_, he, law_post rfl hW' rfl rfl (by rw [Tryd.params3]; intro t ht; simp only [List.mem_cons, List.not_mem_nil, or_false] at ht; rcases ht with rfl | rfl <;> exact ⟨by kernel_rfl, by decide⟩) hg⟩

theorem tilesUnder_holds : Rows.TilesUnderSaid :=
  OpenClaim.holds_of_wide 3 Tryd.f3 rfl rfl rfl rfl rfl rfl rfl ⟨rfl, rfl, rfl, rfl, rfl⟩ rfl rfl rfl rfl rfl (by kernel_rfl) Tryd.func3 (by kernel_rfl)
    (of_decide_eq_true (by kernel_rfl)) (by unfold Func.isWrapper; rw [if_neg (of_decide_eq_false (by kernel_rfl))]; exact ⟨rfl, rfl⟩)
    (fun os started H enc _ => tilesUnder_lifted os started H enc)

theorem tilesUnder_card : Rows.TilesUnderCardSaid :=
  Claim7.holds_tied_plain_at .later [] [.sentinel] true (true, "c807fba6d365b111819c830a4bc7f4aeb67f6025bdf50efbf1769e3d160864c9") true
    tilesUnder_holds (fun _ h => by cases h) (by kernel_rfl) (fun _ h => by cases h) tilesUnder_row_tie rfl ⟨rfl, rfl⟩ (by kernel_rfl) rfl
    (fun f fn hf hfn => by
      obtain rfl : f = 3 := Option.some.inj ((show Tryd.prog.funcNamed "paddock/paddocklaw14.TilesUnder" = some 3 by kernel_rfl).symm.trans hf) |>.symm
      obtain rfl : fn = Tryd.f3 := (Option.some.inj (Tryd.func3.symm.trans hfn)).symm
      exact ⟨by kernel_rfl, fun j t ht => by
          rw [Tryd.params3] at ht
          rcases j with _ | j
          · obtain rfl : t = 23 := by simpa using ht.symm
            exact (show Tryd.prog.wantsStandIn 23 = false by kernel_rfl)
          rcases j with _ | j
          · obtain rfl : t = 25 := by simpa using ht.symm
            exact (show Tryd.prog.wantsStandIn 25 = false by kernel_rfl)
          simp at ht⟩)
    (by kernel_rfl)
#print axioms tilesUnder_card
end Go.Proofs.YtbgbfljbjpbinaaDoor

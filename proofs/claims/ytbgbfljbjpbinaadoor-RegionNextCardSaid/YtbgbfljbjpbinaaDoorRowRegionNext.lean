/- RegionNext returns true for every grid, list of numbers and number, and its arguments read as before. Condition: package api's errors that it names start as the program's text lays them (tied by the card). -/
import Derived.Test.YtbgbfljbjpbinaaDoorFrame
import Derived.Test.YtbgbfljbjpbinaaDoorLawNext
import Derived.Test.YtbgbfljbjpbinaaDoorFrame5
import Derived.Test.YtbgbfljbjpbinaaDoorCards
import Derived.Test.YtbgbfljbjpbinaaDoorTie
namespace Go.Proofs.YtbgbfljbjpbinaaDoor
set_option linter.unusedSimpArgs false
set_option linter.unusedVariables false
open Go.ChangeShapes Go.WideShapes Go.ChangeAt Go.RowKit

theorem regionNext_of_laid {W : World} (h : laidMetH Tryd.prog Rows.regionNextRow.laid W) : ∃ r0 r1 r2 r3 : Addr, W.cell? ⟨1, 0, none⟩ = some (.iface 130 (.pointer (some r0))) ∧ W.cell? ⟨6, 0, none⟩ = some (.iface 130 (.pointer (some r1))) ∧ W.cell? ⟨0, 0, none⟩ = some (.iface 130 (.pointer (some r2))) ∧ W.cell? ⟨7, 0, none⟩ = some (.iface 130 (.pointer (some r3))) := by
  have h : laidMetH Tryd.prog [("paddock/api.ErrRange", Rows.laid_paddock_api_ErrRange), ("paddock/api.ErrState", Rows.laid_paddock_api_ErrState), ("paddock/api.ErrForm", Rows.laid_paddock_api_ErrForm), ("paddock/api.ErrBlocked", Rows.laid_paddock_api_ErrBlocked)] W := h
  rw [MakeChecks.laidMetH_plain _ _ _ (by kernel_rfl)] at h
  obtain ⟨ps, hl, hnd, hrows⟩ := h
  obtain ⟨al, hlen, _, _, hall⟩ := laid_list [errList.getD 0 ("", 0, []), errList.getD 5 ("", 0, []), errList.getD 6 ("", 0, []), errList.getD 7 ("", 0, [])] ps (by
    intro x hx
    simp only [errList, List.getD_cons_zero, List.getD_cons_succ, List.mem_cons, List.not_mem_nil, or_false] at hx
    rcases hx with rfl | rfl | rfl | rfl <;> exact ⟨by kernel_rfl, by kernel_rfl⟩) hl hnd hrows
  match al, hlen with
  | [r0, r1, r2, r3], _ => exact ⟨r0, r1, r2, r3, (hall 0 _ r0 rfl rfl).1, (hall 1 _ r1 rfl rfl).1, (hall 2 _ r2 rfl rfl).1, (hall 3 _ r3 rfl rfl).1⟩

theorem regionNext_door (os : Os) (args : Array Value) : laidMetH Tryd.prog Rows.regionNextRow.laid ((World.doorLaid Tryd.prog 400 os).forCall (fun _ _ => 0) ⟨#[], args, []⟩).memory :=
  laidMetH_of_parts3 (fuel := 8) (laidMet_of_run' 8 (by kernel_rfl) (by kernel_rfl)) (by kernel_rfl) (by kernel_rfl)

set_option maxRecDepth 100000 in
theorem regionNext_lifted (os : Os) (started : os.Started) (H : Type) (enc : TypeId × Value → H) :
    ReturnsInHanded {} Tryd.checked os 8 .any (fun w args => (Rows.regionNextSpec.pre enc Tryd.prog Tryd.f8 [] false w args ∧ laidMetH Tryd.prog Rows.regionNextRow.laid w) ∧ sizedMet enc Tryd.prog Tryd.f8 (OpenSpec.ofChange Rows.regionNextSpec) false w args)
      (Rows.regionNextSpec.post enc Tryd.prog Tryd.f8 false true false false) := by
  refine returnsInHanded_of_change_and (C := Tryd.checked) (X := fun w _ => laidMetH Tryd.prog Rows.regionNextRow.laid w) (fun _ _ _ hh h => h.of_heap hh) own started (by kernel_rfl) Tryd.func8
    (ChangeSpec.witness_shaped (enc := enc) (C := Tryd.checked) (os := os) (X := fun w _ => laidMetH Tryd.prog Rows.regionNextRow.laid w) false (World.doorLaid Tryd.prog 400 os) #[.agg #[.int .i64 0, .int .i64 0, .int .i64 0, .int .i64 0, .int .i64 0], .slice none 0 0, .int .i64 0] 8 rfl (World.shaped_of_RefB (by kernel_rfl) (by kernel_rfl)) (by kernel_rfl) (by kernel_rfl) (by kernel_rfl) (regionNext_door os _)) ?_
  intro W base args ds gs before hval0 hW _ _ hL _
  have hval : ∀ (j : Nat) t v, Tryd.f8.params[j]? = some t → args[j]? = some v → Value.okWide Tryd.prog W .any base t v := hval0
  have hW' := hW
  obtain ⟨p, q, hA0, hV, rfl, hfz, hnd⟩ := hW
  have hA : DataW.TrodAll enc Tryd.prog W 0 (fun _ => true) true Tryd.f8.params.toList args.toList ds p := hA0
  rw [Tryd.params8] at hA hval
  obtain ⟨v0, v1, v2, d0, d1, d2, p0, p1, p2, rfl, rfl, rfl, h0, h1, h2⟩ := trodAll_three hA
  obtain ⟨rfl, rfl⟩ := trodVars_none hV
  obtain ⟨x0a, x0b, x0c, x0d, x0e, rfl⟩ := grid_open (hval 0 23 v0 rfl rfl) h0
  obtain ⟨x1, n1, c1, rfl⟩ := okWide_slice Tryd.underlying28 (hval 1 28 v1 rfl rfl)
  obtain ⟨fu1, h1⟩ := h1
  have q1 := ints_open h1
  obtain ⟨x2a, rfl, _, _, _⟩ := open_int Tryd.underlying3 (hval 2 3 v2 rfl rfl) h2
  obtain ⟨r0, r1, r2, r3, hg0, hg1, hg2, hg3⟩ := regionNext_of_laid hL
  clear hA0 hval0 hval h0 h1 h2 hA
  refine (regionNext_all x0a x0b x0c x0d x0e x2a x1 n1 c1 W r0 r2 r3 r1 ⟨hg0, hg2, hg3, hg1⟩ q1).mono fun e W' ⟨he, hg⟩ => ?_
  exact ⟨_, he, law_post rfl hW' rfl rfl (by rw [Tryd.params8]; intro t ht; simp only [List.mem_cons, List.not_mem_nil, or_false] at ht; rcases ht with rfl | rfl | rfl <;> exact ⟨by kernel_rfl, by decide⟩) hg⟩

theorem regionNext_holds : Rows.RegionNextSaid :=
  OpenClaim.holds_of_wide 8 Tryd.f8 rfl rfl rfl rfl rfl rfl rfl ⟨rfl, rfl, rfl, rfl, rfl⟩ rfl rfl rfl rfl rfl (by kernel_rfl) Tryd.func8 (by kernel_rfl)
    (of_decide_eq_true (by kernel_rfl)) (by unfold Func.isWrapper; rw [if_neg (of_decide_eq_false (by kernel_rfl))]; exact ⟨rfl, rfl⟩)
    (fun os started H enc _ => regionNext_lifted os started H enc)

theorem regionNext_card : Rows.RegionNextCardSaid :=
  Claim7.holds_tied_plain_at .later [] [.sentinel, .sentinel, .sentinel, .sentinel] true (true, "c807fba6d365b111819c830a4bc7f4aeb67f6025bdf50efbf1769e3d160864c9") true
    regionNext_holds (fun _ h => by cases h) (by kernel_rfl) (fun _ h => by cases h) regionNext_row_tie rfl ⟨rfl, rfl⟩ (by kernel_rfl) rfl
    (fun f fn hf hfn => by
      obtain rfl : f = 8 := Option.some.inj ((show Tryd.prog.funcNamed "paddock/paddocklaw15.RegionNext" = some 8 by kernel_rfl).symm.trans hf) |>.symm
      obtain rfl : fn = Tryd.f8 := (Option.some.inj (Tryd.func8.symm.trans hfn)).symm
      exact ⟨by kernel_rfl, fun j t ht => by
          rw [Tryd.params8] at ht
          rcases j with _ | j
          · obtain rfl : t = 23 := by simpa using ht.symm
            exact (show Tryd.prog.wantsStandIn 23 = false by kernel_rfl)
          rcases j with _ | j
          · obtain rfl : t = 28 := by simpa using ht.symm
            exact (show Tryd.prog.wantsStandIn 28 = false by kernel_rfl)
          rcases j with _ | j
          · obtain rfl : t = 3 := by simpa using ht.symm
            exact (show Tryd.prog.wantsStandIn 3 = false by kernel_rfl)
          simp at ht⟩)
    (by kernel_rfl)
#print axioms regionNext_card
end Go.Proofs.YtbgbfljbjpbinaaDoor

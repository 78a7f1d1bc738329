/- PlaneTurned returns true for every two boxes and every point, and its arguments read as before. Condition: package api's errors start as the program's text lays them (tied by the card). -/
import Derived.Test.YtlaiikahgioonaaDoorFrame
import Derived.Test.YtlaiikahgioonaaDoorLawE
import Derived.Test.YtlaiikahgioonaaDoorCards
import Derived.Test.YtlaiikahgioonaaDoorTie
namespace Go.Proofs.YtlaiikahgioonaaDoor
set_option linter.unusedSimpArgs false
set_option linter.unusedVariables false
open Go.ChangeShapes Go.WideShapes Go.ChangeAt Go.RowKit

theorem two_of_laid {W : World} (h : laidMetH Tryd.prog Rows.planeTurnedRow.laid W) : ∃ r0 r1 : Addr, W.cell? ⟨0, 0, none⟩ = some (.iface 80 (.pointer (some r0))) ∧ W.cell? ⟨1, 0, none⟩ = some (.iface 80 (.pointer (some r1))) := by
  have h : laidMetH Tryd.prog [("paddock/api.ErrRange", Rows.laid_paddock_api_ErrRange), ("paddock/api.ErrForm", Rows.laid_paddock_api_ErrForm)] W := h
  rw [MakeChecks.laidMetH_plain _ _ _ (by kernel_rfl)] at h
  obtain ⟨ps, hl, hnd, hrows⟩ := h
  obtain ⟨al, hlen, _, _, hall⟩ := laid_list [errList.getD 0 ("", 0, []), errList.getD 6 ("", 0, [])] ps (by
    intro x hx
    simp only [errList, List.getD_cons_zero, List.getD_cons_succ, List.mem_cons, List.not_mem_nil, or_false] at hx
    rcases hx with rfl | rfl <;> exact ⟨by kernel_rfl, by kernel_rfl⟩) hl hnd hrows
  match al, hlen with
  | [r0, r1], _ => exact ⟨r0, r1, (hall 0 _ r0 rfl rfl).1, (hall 1 _ r1 rfl rfl).1⟩

theorem planeTurned_door (os : Os) (args : Array Value) : laidMetH Tryd.prog Rows.planeTurnedRow.laid ((World.doorLaid Tryd.prog 400 os).forCall (fun _ _ => 0) ⟨#[], args, []⟩).memory :=
  laidMetH_of_parts3 (fuel := 8) (laidMet_of_run' 8 (by kernel_rfl) (by kernel_rfl)) (by kernel_rfl) (by kernel_rfl)

set_option maxRecDepth 100000 in
theorem planeTurned_lifted (os : Os) (started : os.Started) (H : Type) (enc : TypeId × Value → H) :
    ReturnsInHanded {} Tryd.checked os 7 .any (fun w args => (Rows.planeTurnedSpec.pre enc Tryd.prog Tryd.f7 [] false w args ∧ laidMetH Tryd.prog Rows.planeTurnedRow.laid w) ∧ sizedMet enc Tryd.prog Tryd.f7 (OpenSpec.ofChange Rows.planeTurnedSpec) false w args)
      (Rows.planeTurnedSpec.post enc Tryd.prog Tryd.f7 false true false false) := by
  refine returnsInHanded_of_change_and (C := Tryd.checked) (X := fun w _ => laidMetH Tryd.prog Rows.planeTurnedRow.laid w) (fun _ _ _ hh h => h.of_heap hh) own started (by kernel_rfl) Tryd.func7
    (ChangeSpec.witness_shaped (enc := enc) (C := Tryd.checked) (os := os) (X := fun w _ => laidMetH Tryd.prog Rows.planeTurnedRow.laid w) false (World.doorLaid Tryd.prog 400 os) #[.agg #[.int .i64 0, .int .i64 0, .int .i64 0, .int .i64 0], .agg #[.int .i64 0, .int .i64 0, .int .i64 0, .int .i64 0], .agg #[.int .i64 0, .int .i64 0]] 8 rfl (World.shaped_of_RefB (by kernel_rfl) (by kernel_rfl)) (by kernel_rfl) (by kernel_rfl) (by kernel_rfl) (planeTurned_door os _)) ?_
  intro W base args ds gs before hval0 hW _ _ hL _
  have hval : ∀ (j : Nat) t v, Tryd.f7.params[j]? = some t → args[j]? = some v → Value.okWide Tryd.prog W .any base t v := hval0
  have hW' := hW
  obtain ⟨p, q, hA0, hV, rfl, hfz, hnd⟩ := hW
  have hA : DataW.TrodAll enc Tryd.prog W 0 (fun _ => true) true Tryd.f7.params.toList args.toList ds p := hA0
  rw [Tryd.params7] at hA hval
  obtain ⟨v0, v1, v2, d0, d1, d2, p0, p1, p2, rfl, rfl, rfl, h0, h1, h2⟩ := trodAll_three hA
  obtain ⟨rfl, rfl⟩ := trodVars_none hV
  obtain ⟨x0a, x0b, x0c, x0d, rfl⟩ := box_open (hval 0 23 v0 rfl rfl) h0
  obtain ⟨x1a, x1b, x1c, x1d, rfl⟩ := box_open (hval 1 23 v1 rfl rfl) h1
  obtain ⟨x2a, x2b, rfl⟩ := point_open (hval 2 27 v2 rfl rfl) h2
  obtain ⟨r0, r1, hg0, hg1⟩ := two_of_laid hL
  clear hA0 hval0 hval h0 h1 h2 hA
  refine (planeTurned_any x0a x0b x0c x0d x1a x1b x1c x1d x2a x2b W r0 r1 hg0 hg1).mono fun e W' ⟨he, hg⟩ => ?_
  exact ⟨_, he, law_post rfl hW' rfl rfl (by rw [Tryd.params7]; intro t ht; simp only [List.mem_cons, List.not_mem_nil, or_false] at ht; rcases ht with rfl | rfl | rfl <;> exact ⟨by kernel_rfl, by decide⟩) hg⟩

theorem planeTurned_holds : Rows.PlaneTurnedSaid :=
  OpenClaim.holds_of_wide 7 Tryd.f7 rfl rfl rfl rfl rfl rfl rfl ⟨rfl, rfl, rfl, rfl, rfl⟩ rfl rfl rfl rfl rfl (by kernel_rfl) Tryd.func7 (by kernel_rfl)
    (of_decide_eq_true (by kernel_rfl)) (by unfold Func.isWrapper; rw [if_neg (of_decide_eq_false (by kernel_rfl))]; exact ⟨rfl, rfl⟩)
    (fun os started H enc _ => planeTurned_lifted os started H enc)

theorem planeTurned_card : Rows.PlaneTurnedCardSaid :=
  Claim7.holds_tied_plain_at .later [] [.sentinel, .sentinel] true (true, "654c390da7707ca8ab7c17b26ba99179f0dd33cffdb5c5ca3df430fb19258ac2") true
    planeTurned_holds (fun _ h => by cases h) (by kernel_rfl) (fun _ h => by cases h) planeTurned_row_tie rfl ⟨rfl, rfl⟩ (by kernel_rfl) rfl
    (fun f fn hf hfn => by
      obtain rfl : f = 7 := Option.some.inj ((show Tryd.prog.funcNamed "paddock/paddocklaw01.PlaneTurned" = some 7 by kernel_rfl).symm.trans hf) |>.symm
      obtain rfl : fn = Tryd.f7 := (Option.some.inj (Tryd.func7.symm.trans hfn)).symm
      exact ⟨by kernel_rfl, fun j t ht => by
          rw [Tryd.params7] at ht
          rcases j with _ | j
          · obtain rfl : t = 23 := by simpa using ht.symm
            exact (show Tryd.prog.wantsStandIn 23 = false by kernel_rfl)
          rcases j with _ | j
          · obtain rfl : t = 23 := by simpa using ht.symm
            exact (show Tryd.prog.wantsStandIn 23 = false by kernel_rfl)
          rcases j with _ | j
          · obtain rfl : t = 27 := by simpa using ht.symm
            exact (show Tryd.prog.wantsStandIn 27 = false by kernel_rfl)
          simp at ht⟩)
    (by kernel_rfl)
#print axioms planeTurned_card
end Go.Proofs.YtlaiikahgioonaaDoor

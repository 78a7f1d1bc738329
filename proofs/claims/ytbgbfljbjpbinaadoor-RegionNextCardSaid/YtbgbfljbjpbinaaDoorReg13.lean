/- The plain laws of cut: free neighbours bear one label still; only tiles that bore the cut tile's label are touched. No program in sight. -/
import Derived.Test.YtbgbfljbjpbinaaDoorReg12
namespace Go.Proofs.YtbgbfljbjpbinaaDoor
set_option linter.unusedSimpArgs false
set_option linter.unusedVariables false
open Go.RowKit Go.Maps

theorem ph1_uni {W H N i : Nat} {old : Int} {ns : List Int} {lab0 lab : Nat → Int} (h : Ph1 W N old ns lab0 i lab) (hW : 1 ≤ W) (hN : N = W * H) (h0 : Uni W N lab0) : Uni W N lab := by
  induction h with
  | start => exact h0
  | skip _ _ _ _ ih => exact ih
  | fill _ _ _ _ hF ih => exact ih.fill hW hN hF
theorem ph2_uni {W H N k : Nat} {lab1 lab : Nat → Int} {D1 D : DataW Unit} (h : Ph2 W N lab1 D1 k lab D) (hW : 1 ≤ W) (hN : N = W * H) (h0 : Uni W N lab1) : Uni W N lab := by
  induction h with
  | start => exact h0
  | skip _ _ _ ih => exact ih
  | fill _ _ _ hF ih => exact ih.fill hW hN hF
theorem Uni.cut {W N t : Nat} {lab : Nat → Int} (h : Uni W N lab) : Uni W N (fun j => if j = t then -1 else lab j) := by
  intro j k hj hk h1 h2
  dsimp only at h1 h2 ⊢
  by_cases e1 : j = t
  · rw [if_pos e1] at h1; exact absurd rfl h1
  · by_cases e2 : k = t
    · rw [if_pos e2] at h2; exact absurd rfl h2
    · rw [if_neg e1] at h1 ⊢
      rw [if_neg e2] at h2 ⊢
      exact h j k hj hk h1 h2
theorem CutStep.uni {W H N t : Nat} {lab lab2 : Nat → Int} {D D2 : DataW Unit} (h : CutStep W N t lab D lab2 D2) (hW : 1 ≤ W) (hN : N = W * H) (h0 : Uni W N lab) : Uni W N lab2 := by
  obtain ⟨lab1, h1, h2⟩ := h
  exact ph2_uni h2 hW hN (ph1_uni h1 hW hN h0.cut)
theorem Cuts.uni {W H N i : Nat} {L : List Int} {lab0 lab : Nat → Int} {D0 D : DataW Unit} (h : Cuts W N L lab0 D0 i lab D) (hW : 1 ≤ W) (hN : N = W * H) (h0 : Uni W N lab0) : Uni W N lab := by
  induction h with
  | start => exact h0
  | step _ _ _ hs ih => exact hs.uni hW hN ih

theorem ph1_kept {W H N i : Nat} {old : Int} {ns : List Int} {lab0 lab : Nat → Int} (h : Ph1 W N old ns lab0 i lab) (hW : 1 ≤ W) (hN : N = W * H) (h0 : Uni W N lab0) (ho : old ≠ -1) (hoN : old < N) (j : Nat) (hj : j < N) : lab j = lab0 j ∨ (lab0 j = old ∧ (N : Int) ≤ lab j) := by
  induction h with
  | start => exact .inl rfl
  | skip _ _ _ _ ih => exact ih
  | @fill i k lab R hp _ hk hl hF ih =>
    dsimp only
    by_cases r : R j = true
    · rw [if_pos r]
      have hu := ph1_uni hp hW hN h0
      have := (Reach.uni (hF.rr j r) hu hW hN hk (by rw [hl]; exact ho)).2
      rw [hl] at this
      rcases ih with e | ⟨e1, e2⟩
      · right; exact ⟨by rw [← e]; exact this, by omega⟩
      · omega
    · rw [if_neg r]; exact ih
theorem ph2_kept {W H N k : Nat} {lab1 lab : Nat → Int} {D1 D : DataW Unit} (h : Ph2 W N lab1 D1 k lab D) (hW : 1 ≤ W) (hN : N = W * H) (h0 : Uni W N lab1) (j : Nat) (hj : lab1 j < N) : lab j = lab1 j := by
  induction h with
  | start => rfl
  | skip _ _ _ ih => exact ih
  | @fill k lab D R hp hk hl hF ih =>
    dsimp only
    by_cases r : R j = true
    · have hu := ph2_uni hp hW hN h0
      have := (Reach.uni (hF.rr j r) hu hW hN hk (by omega)).2
      omega
    · rw [if_neg r]; exact ih
/-- A tile that bore another label than the cut one keeps it; the cut one bears none. -/
theorem CutStep.kept {W H N t : Nat} {lab lab2 : Nat → Int} {D D2 : DataW Unit} (h : CutStep W N t lab D lab2 D2) (hW : 1 ≤ W) (hN : N = W * H) (h0 : Uni W N lab) (hr : LabOk N lab) (ht : t < N) (hf : lab t ≠ -1) : lab2 t = -1 ∧ ∀ j, j < N → lab j ≠ lab t → lab2 j = lab j := by
  obtain ⟨lab1, h1, h2⟩ := h
  have ho := hr t ht
  have k1 := fun j hj => ph1_kept h1 hW hN h0.cut hf ho.2 j hj
  have k2 := fun j hj => ph2_kept h2 hW hN (ph1_uni h1 hW hN h0.cut) j hj
  have key : ∀ j, j < N → (if j = t then (-1 : Int) else lab j) ≠ lab t → lab2 j = (if j = t then (-1 : Int) else lab j) := fun j hj hne => by
    rcases k1 j hj with e | ⟨e1, _⟩
    · have hlt : lab1 j < N := by
        rw [e]
        have := hr j hj
        split <;> omega
      rw [k2 j hlt, e]
    · exact absurd e1 hne
  refine ⟨?_, fun j hj hne => ?_⟩
  · have := key t ht (by rw [if_pos rfl]; exact fun e => hf e.symm)
    rwa [if_pos rfl] at this
  · by_cases e : j = t
    · subst e; exact absurd rfl hne
    · have := key j hj (by rw [if_neg e]; exact hne)
      rwa [if_neg e] at this
end Go.Proofs.YtbgbfljbjpbinaaDoor

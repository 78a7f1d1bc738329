/- The plain laws of region's labels: free neighbours bear one label, whatever is filled. No program in sight. -/
import Derived.Test.YtbgbfljbjpbinaaDoorReg9
namespace Go.Proofs.YtbgbfljbjpbinaaDoor
set_option linter.unusedSimpArgs false
set_option linter.unusedVariables false
open Go.RowKit Go.Maps

theorem nbr_iff {W N j k : Nat} : (k : Int) ∈ nbr W N j ↔ (W ≤ j ∧ k + W = j) ∨ (0 < j % W ∧ k + 1 = j) ∨ (j % W < W - 1 ∧ k = j + 1) ∨ (j + W < N ∧ k = j + W) := by
  unfold nbr
  simp only [List.mem_append]
  constructor
  · rintro (((h | h) | h) | h)
    · split at h
      · simp at h; left; omega
      · cases h
    · split at h
      · rename_i h0
        simp at h
        have : 0 < j := by apply Nat.pos_of_ne_zero; rintro rfl; simp at h0
        right; left; omega
      · cases h
    · split at h
      · simp at h; right; right; left; omega
      · cases h
    · split at h
      · simp at h; right; right; right; omega
      · cases h
  · rintro (⟨h, e⟩ | ⟨h, e⟩ | ⟨h, e⟩ | ⟨h, e⟩)
    · left; left; left; rw [if_pos h]; simp; omega
    · left; left; right; rw [if_pos h]; simp; omega
    · left; right; rw [if_pos h]; simp; omega
    · right; rw [if_pos h]; simp; omega
theorem nbr_symm {W N j k : Nat} (hW : 1 ≤ W) (hj : j < N) (h : (k : Int) ∈ nbr W N j) : (j : Int) ∈ nbr W N k := by
  rw [nbr_iff] at h ⊢
  have hk := Nat.div_add_mod k W
  have hjd := Nat.div_add_mod j W
  have m1 := Nat.mod_lt k (show 0 < W by omega)
  have m2 := Nat.mod_lt j (show 0 < W by omega)
  rcases h with ⟨h, e⟩ | ⟨h, e⟩ | ⟨h, e⟩ | ⟨h, e⟩
  · right; right; right; omega
  · right; right; left
    have : k % W = j % W - 1 := by
      have : k = W * (j / W) + (j % W - 1) := by omega
      rw [this, Nat.mul_add_mod, Nat.mod_eq_of_lt (by omega)]
    omega
  · right; left
    have : k % W = j % W + 1 := by
      have : k = W * (j / W) + (j % W + 1) := by omega
      rw [this, Nat.mul_add_mod, Nat.mod_eq_of_lt (by omega)]
    omega
  · left; omega
/-- Free tiles next to each other bear one label. -/
def Uni (W N : Nat) (lab : Nat → Int) : Prop := ∀ j k : Nat, j < N → (k : Int) ∈ nbr W N j → lab j ≠ -1 → lab k ≠ -1 → lab j = lab k
theorem Uni.fill {W H N t n : Nat} {label : Int} {lab : Nat → Int} {R : Nat → Bool} (h : Uni W N lab) (hW : 1 ≤ W) (hN : N = W * H) (hF : FillAt W N t label lab R [] n) : Uni W N (fun j => if R j = true then label else lab j) := by
  intro j k hj hk h1 h2
  obtain ⟨k', e, hkN⟩ := nbr_mem hW hN hj hk
  obtain rfl : k = k' := by omega
  dsimp only at h1 h2 ⊢
  by_cases rj : R j = true
  · by_cases rk : R k = true
    · rw [if_pos rj, if_pos rk]
    · rw [if_neg rk] at h2
      rw [if_pos rj, if_neg rk]
      rcases hF.cl j rj (by simp) k hk with e | e | e
      · exact absurd e h2
      · exact e.symm
      · exact absurd e rk
  · by_cases rk : R k = true
    · rw [if_neg rj] at h1
      rw [if_neg rj, if_pos rk]
      rcases hF.cl k rk (by simp) j (nbr_symm hW hj hk) with e | e | e
      · exact absurd e h1
      · exact e
      · exact absurd e rj
    · rw [if_neg rj] at h1
      rw [if_neg rk] at h2
      rw [if_neg rj, if_neg rk]
      exact h j k hj hk h1 h2
/-- What is filled bore the first tile's label. -/
theorem Reach.uni {W H N t j : Nat} {label : Int} {lab : Nat → Int} (h : Reach W N lab label t j) (hu : Uni W N lab) (hW : 1 ≤ W) (hN : N = W * H) (ht : t < N) (h0 : lab t ≠ -1) : j < N ∧ lab j = lab t := by
  induction h with
  | refl => exact ⟨ht, rfl⟩
  | @step j k _ hm hk _ ih =>
    obtain ⟨hj, e⟩ := ih
    obtain ⟨k', e', hkN⟩ := nbr_mem hW hN hj hm
    obtain rfl : k = k' := by omega
    exact ⟨hkN, (hu j k hj hm (by rw [e]; exact h0) hk).symm.trans e⟩
end Go.Proofs.YtbgbfljbjpbinaaDoor

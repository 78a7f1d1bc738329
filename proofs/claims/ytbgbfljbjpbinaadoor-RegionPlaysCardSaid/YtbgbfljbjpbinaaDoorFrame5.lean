/- A list of integers that is a parameter, opened. No conditions of its own. -/
import Derived.Test.YtbgbfljbjpbinaaDoorFrame2
import Derived.Deep.Slices
import Derived.Deep.Fields
namespace Go.Proofs.YtbgbfljbjpbinaaDoor
set_option linter.unusedSimpArgs false
set_option linter.unusedVariables false
open Go.ChangeShapes Go.WideShapes Go.ChangeAt Go.RowKit

/-- The integers of a list lie in memory. -/
def IntsIn (w : World) (v : Option Addr) (n cap : Nat) : Prop := n = 0 ∨ ∃ bb off, v = some ⟨bb, off, none⟩ ∧ n ≤ cap ∧ cap ≤ maxLen ∧ bb < w.heap.size ∧ ∀ i, i < n → ∃ y : Int, w.cell? ⟨bb, off + i, none⟩ = some (.int .i64 y)
set_option maxRecDepth 100000 in
theorem ints_open {H : Type} {enc : TypeId × Value → H} {W : World} {sp : Nat → Bool} {hd : Bool} {fuel : Nat} {v : Option Addr} {n cap : Nat} {x : DataW H × List MemPlace} (h : DataW.trod enc Tryd.prog W 0 sp hd fuel 28 [.slice v n cap] = some x) :
    IntsIn W v n cap := by
  rcases Deep.open_slice Tryd.underlying28 h with ⟨hcs, _⟩ | ⟨a, len, cap', m, k, D, Pl, hcs, hb, hl, hm, hmm, hx, hi⟩
  · left; simp at hcs; exact hcs.2.1
  · simp only [List.cons.injEq, Value.slice.injEq, and_true] at hcs
    obtain ⟨rfl, rfl, rfl⟩ := hcs
    by_cases hn : n = 0
    · exact .inl hn
    · right
      have hle : n ≤ m := by rw [hmm]; split <;> omega
      have key : ∀ i, i < n → ∃ y : Int, W.cell? (a.add i) = some (.int .i64 y) := by
        intro i hin
        obtain ⟨cs', hc, ht'⟩ := hi i (by omega)
        rw [show Tryd.prog.cellsOf 3 = 1 by kernel_rfl] at hc
        obtain ⟨y, e0, _⟩ := DataW.trod_int Tryd.underlying3 ht'
        subst e0
        obtain ⟨_, _, hat⟩ := World.cells?_some hc
        have := hat 0 (by omega)
        rw [Deep.add_add, Nat.mul_one, Nat.add_zero] at this
        exact ⟨y, by simpa using this⟩
      have hspot : a.spot = none := by
        obtain ⟨_, h0⟩ := key 0 (by omega)
        simp only [Addr.add, if_pos] at h0
        unfold World.cell? at h0
        split at h0
        · split at h0
          · cases h0
          · rename_i hns; simpa using hns
        · cases h0
      obtain ⟨bb, off, sp0⟩ := a
      simp only at hspot; subst hspot
      have hadd : ∀ j, (Addr.mk bb off none).add j = ⟨bb, off + j, none⟩ := fun j => by unfold Addr.add; split <;> simp [*]
      refine ⟨bb, off, rfl, by omega, by omega, ?_, fun i hi => ?_⟩
      · obtain ⟨_, h0⟩ := key 0 (by omega)
        rw [hadd] at h0
        exact World.block_lt_of_cell? _ _ h0
      · have := key i hi
        simp only [hadd] at this
        exact this
end Go.Proofs.YtbgbfljbjpbinaaDoor

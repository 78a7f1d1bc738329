/- The sentinels of region's laws; a remainder of an unsigned number. Conditions: the sentinels' cells. -/
import Derived.Test.YtbgbfljbjpbinaaDoorReg11
import Derived.Test.YtbgbfljbjpbinaaDoorReg14
import Derived.Test.YtbgbfljbjpbinaaDoorFrame5
namespace Go.Proofs.YtbgbfljbjpbinaaDoor
set_option linter.unusedSimpArgs false
set_option linter.unusedVariables false
open Go.RowKit Go.Maps

/-- The four sentinels of region's laws. -/
structure Sent (w : World) (a f b s : Addr) : Prop where
  range : w.cell? ⟨1, 0, none⟩ = some (.iface 130 (.pointer (some a)))
  form : w.cell? ⟨0, 0, none⟩ = some (.iface 130 (.pointer (some f)))
  blocked : w.cell? ⟨7, 0, none⟩ = some (.iface 130 (.pointer (some b)))
  state : w.cell? ⟨6, 0, none⟩ = some (.iface 130 (.pointer (some s)))
theorem Sent.grew {w w' : World} {a f b s : Addr} (h : Sent w a f b s) (g : Grew w w') : Sent w' a f b s :=
  ⟨(g.facts.1 _ _ (lt_of_cell h.range)).trans h.range, (g.facts.1 _ _ (lt_of_cell h.form)).trans h.form, (g.facts.1 _ _ (lt_of_cell h.blocked)).trans h.blocked, (g.facts.1 _ _ (lt_of_cell h.state)).trans h.state⟩

theorem list_one (w : World) (t : Nat) : ListAt (w.alloc (.cells #[.int .i64 t] 3)) w.heap.size 0 1 [(t : Int)] := by
  refine ⟨by simp, by decide, by simp, fun k x hx => ?_⟩
  rcases k with _ | k
  · simp at hx; subst hx; simp
  · simp at hx
theorem uint_rem (y : Int) {N : Nat} (hN : 0 < N) : ∃ R : Nat, R < N ∧ (IntKind.u64.wrap y).tmod (N : Int) = (R : Int) := by
  have hu : 0 ≤ IntKind.u64.wrap y := by rw [show IntKind.u64.wrap y = y % 18446744073709551616 from rfl]; exact Int.emod_nonneg _ (by decide)
  have h0 := Int.emod_nonneg (IntKind.u64.wrap y) (show (N : Int) ≠ 0 by omega)
  have h1 := Int.emod_lt_of_pos (IntKind.u64.wrap y) (show (0 : Int) < N by omega)
  exact ⟨((IntKind.u64.wrap y) % (N : Int)).toNat, by omega, by rw [Int.tmod_eq_emod_of_nonneg hu]; omega⟩

end Go.Proofs.YtbgbfljbjpbinaaDoor

/- paddocknum.Num by its contracts: nil is 0, each of the errors named is its number. Conditions: the errors' cells. -/
import Derived.Test.YtbgbfljbjpbinaaDoorIs
import Derived.Outline
namespace Go.Proofs.YtbgbfljbjpbinaaDoor
set_option linter.unusedSimpArgs false
set_option linter.unusedVariables false
open Go.RowKit

/-- Package api's ten errors lie as their initialisers lay them: ten pointers, no two alike. -/
structure Errs (w : World) (ad : Nat → Addr) : Prop where
  cell : ∀ g, g < 10 → w.cell? ⟨g, 0, none⟩ = some (.iface 130 (.pointer (some (ad g))))
  row : ∀ g, g < 10 → ∃ c t, w.heap[(ad g).block]? = some (.cells c t (0, 0))
  ne : ∀ g h, g < 10 → h < 10 → g ≠ h → ad g ≠ ad h

theorem lt_of_heap {w : World} {b : Nat} {x : Obj} (h : w.heap[b]? = some x) : b < w.heap.size := by
  rcases Nat.lt_or_ge b w.heap.size with h' | h'
  · exact h'
  · simp [Array.getElem?_eq_none h'] at h
theorem Errs.size {w : World} {ad : Nat → Addr} (h : Errs w ad) : 10 ≤ w.heap.size := by
  have hc := h.cell 9 (by decide)
  rcases Nat.lt_or_ge 9 w.heap.size with h' | h'
  · exact h'
  · simp [World.cell?, Array.getElem?_eq_none h'] at hc
theorem Errs.grew {w w' : World} {ad : Nat → Addr} (h : Errs w ad) (hg : Grew w w') : Errs w' ad :=
  ⟨fun g hl => (hg.facts.1 g 0 (by have := h.size; omega)).trans (h.cell g hl), fun g hl => by
    obtain ⟨c, t, e⟩ := h.row g hl
    exact ⟨c, t, (hg.below.block _ (lt_of_heap e)).trans e⟩, h.ne⟩
theorem heap_alloc_old {w : World} {b : Nat} {x : Obj} (o : Obj) (h : w.heap[b]? = some x) : (w.alloc o).heap[b]? = some x :=
  (Below.heap_alloc w o b (lt_of_heap h)).trans h

set_option maxHeartbeats 1000000 in
theorem num_nil (w : World) : Calls Tryd.prog 27 #[.nilIface] w fun e w' => e = .returned (.int .i64 0) ∧ w = w' := by
  go_enter Tryd.func27, Tryd.ntmps27
  go_wp2
  go_ret
  exact ⟨rfl, rfl⟩

end Go.Proofs.YtbgbfljbjpbinaaDoor

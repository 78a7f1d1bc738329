/- paddocknum.Num by its contracts: nil is 0, each of the errors named is its number. Conditions: the errors' cells. -/
import Derived.Test.YtbgbfljbjpbinaaDoorIs
import Derived.Outline
namespace Go.Proofs.YtbgbfljbjpbinaaDoor
set_option linter.unusedSimpArgs false
set_option linter.unusedVariables false
open Go.RowKit

/-- Package api's ten errors lie as their initialisers lay them: ten pointers, no two alike. -/
structure Errs (w : World) (ad : Nat → Addr) : Prop where
  cell : ∀ g, g < 10 → w.cell? ⟨g, 0, none⟩ = some (.iface 130 (.pointer (some (ad g))))
  row : ∀ g, g < 10 → ∃ c t, w.heap[(ad g).block]? = some (.cells c t (0, 0))
  ne : ∀ g h, g < 10 → h < 10 → g ≠ h → ad g ≠ ad h

theorem lt_of_heap {w : World} {b : Nat} {x : Obj} (h : w.heap[b]? = some x) : b < w.heap.size := by
  rcases Nat.lt_or_ge b w.heap.size with h' | h'
  · exact h'
  · simp [Array.getElem?_eq_none h'] at h
theorem Errs.size {w : World} {ad : Nat → Addr} (h : Errs w ad) : 10 ≤ w.heap.size := by
  have hc := h.cell 9 (by decide)
  rcases Nat.lt_or_ge 9 w.heap.size with h' | h'
  · exact h'
  · simp [World.cell?, Array.getElem?_eq_none h'] at hc
theorem Errs.grew {w w' : World} {ad : Nat → Addr} (h : Errs w ad) (hg : Grew w w') : Errs w' ad :=
  ⟨fun g hl => (hg.facts.1 g 0 (by have := h.size; omega)).trans (h.cell g hl), fun g hl => by
    obtain ⟨c, t, e⟩ := h.row g hl
    exact ⟨c, t, (hg.below.block _ (lt_of_heap e)).trans e⟩, h.ne⟩
theorem heap_alloc_old {w : World} {b : Nat} {x : Obj} (o : Obj) (h : w.heap[b]? = some x) : (w.alloc o).heap[b]? = some x :=
  (Below.heap_alloc w o b (lt_of_heap h)).trans h

set_option maxHeartbeats 1000000 in
theorem num_nil (w : World) : Calls Tryd.prog 27 #[.nilIface] w fun e w' => e = .returned (.int .i64 0) ∧ w = w' := by
  go_enter Tryd.func27, Tryd.ntmps27
  go_wp2
  go_ret
  exact ⟨rfl, rfl⟩


set_option maxHeartbeats 4000000 in
theorem num_Range (w : World) (ad : Nat → Addr) (hE : Errs w ad) :
    Calls Tryd.prog 27 #[.iface 130 (.pointer (some (ad 1)))] w fun e w' => e = .returned (.int .i64 1) ∧ Grew w w' := by
  have k0 := hE.cell 0 (by decide)
  have k1 := hE.cell 1 (by decide)
  have k2 := hE.cell 2 (by decide)
  have k3 := hE.cell 3 (by decide)
  have k4 := hE.cell 4 (by decide)
  have k5 := hE.cell 5 (by decide)
  have k6 := hE.cell 6 (by decide)
  have k7 := hE.cell 7 (by decide)
  have k8 := hE.cell 8 (by decide)
  have k9 := hE.cell 9 (by decide)
  obtain ⟨cRange, tRange, rRange⟩ := hE.row 1 (by decide)
  have RRange : Hid (w.heap[(ad 1).block]? = some (.cells cRange tRange (0, 0))) := rRange; clear rRange
  clear hE
  go_enter Tryd.func27, Tryd.ntmps27
  go_wp2_with fail
  refine wp_loop_rounds 1 ?_
  rw [rounds_succ]
  go_wp2_with (go_at_call 60; refine (is_same (ad 1) _).mono ?_; rintro e w' ⟨rfl, rfl⟩)
  go_ret
  exact ⟨rfl, (by repeat (first | exact Grew.refl _ | assumption | refine Grew.drew ?_ | refine Grew.alloc ?_ _ | refine Grew.setCell ?_ (by (try simp only [World.size_alloc, World.size_drew]); omega) _ | refine Grew.trans ?_ (by assumption)))⟩

set_option maxHeartbeats 4000000 in
theorem num_None (w : World) (ad : Nat → Addr) (hE : Errs w ad) :
    Calls Tryd.prog 27 #[.iface 130 (.pointer (some (ad 3)))] w fun e w' => e = .returned (.int .i64 3) ∧ Grew w w' := by
  have k0 := hE.cell 0 (by decide)
  have k1 := hE.cell 1 (by decide)
  have k2 := hE.cell 2 (by decide)
  have k3 := hE.cell 3 (by decide)
  have k4 := hE.cell 4 (by decide)
  have k5 := hE.cell 5 (by decide)
  have k6 := hE.cell 6 (by decide)
  have k7 := hE.cell 7 (by decide)
  have k8 := hE.cell 8 (by decide)
  have k9 := hE.cell 9 (by decide)
  obtain ⟨cRange, tRange, rRange⟩ := hE.row 1 (by decide)
  obtain ⟨cFull, tFull, rFull⟩ := hE.row 2 (by decide)
  obtain ⟨cNone, tNone, rNone⟩ := hE.row 3 (by decide)
  have nRange : Hid (ad 3 ≠ ad 1) := hE.ne 3 1 (by decide) (by decide) (by decide)
  have nFull : Hid (ad 3 ≠ ad 2) := hE.ne 3 2 (by decide) (by decide) (by decide)
  have RRange : Hid (w.heap[(ad 1).block]? = some (.cells cRange tRange (0, 0))) := rRange; clear rRange
  have RFull : Hid (w.heap[(ad 2).block]? = some (.cells cFull tFull (0, 0))) := rFull; clear rFull
  have RNone : Hid (w.heap[(ad 3).block]? = some (.cells cNone tNone (0, 0))) := rNone; clear rNone
  clear hE
  go_enter Tryd.func27, Tryd.ntmps27
  go_wp2_with fail
  refine wp_loop_rounds 3 ?_
  rw [rounds_succ]
  go_wp2_with (go_at_call 60; refine (is_other (ad 3) (ad 1) cNone cRange tNone tRange _ nRange.out (heap_alloc_old _ RNone.out) (heap_alloc_old _ RRange.out)).mono ?_; rintro e w' ⟨rfl, rfl⟩)
  rw [rounds_succ]
  go_wp2_with (go_at_call 60; refine (is_other (ad 3) (ad 2) cNone cFull tNone tFull _ nFull.out (heap_alloc_old _ RNone.out) (heap_alloc_old _ RFull.out)).mono ?_; rintro e w' ⟨rfl, rfl⟩)
  rw [rounds_succ]
  go_wp2_with (go_at_call 60; refine (is_same (ad 3) _).mono ?_; rintro e w' ⟨rfl, rfl⟩)
  go_ret
  exact ⟨rfl, (by repeat (first | exact Grew.refl _ | assumption | refine Grew.drew ?_ | refine Grew.alloc ?_ _ | refine Grew.setCell ?_ (by (try simp only [World.size_alloc, World.size_drew]); omega) _ | refine Grew.trans ?_ (by assumption)))⟩

set_option maxHeartbeats 4000000 in
theorem num_Form (w : World) (ad : Nat → Addr) (hE : Errs w ad) :
    Calls Tryd.prog 27 #[.iface 130 (.pointer (some (ad 0)))] w fun e w' => e = .returned (.int .i64 7) ∧ Grew w w' := by
  have k0 := hE.cell 0 (by decide)
  have k1 := hE.cell 1 (by decide)
  have k2 := hE.cell 2 (by decide)
  have k3 := hE.cell 3 (by decide)
  have k4 := hE.cell 4 (by decide)
  have k5 := hE.cell 5 (by decide)
  have k6 := hE.cell 6 (by decide)
  have k7 := hE.cell 7 (by decide)
  have k8 := hE.cell 8 (by decide)
  have k9 := hE.cell 9 (by decide)
  obtain ⟨cRange, tRange, rRange⟩ := hE.row 1 (by decide)
  obtain ⟨cFull, tFull, rFull⟩ := hE.row 2 (by decide)
  obtain ⟨cNone, tNone, rNone⟩ := hE.row 3 (by decide)
  obtain ⟨cExists, tExists, rExists⟩ := hE.row 4 (by decide)
  obtain ⟨cKind, tKind, rKind⟩ := hE.row 5 (by decide)
  obtain ⟨cState, tState, rState⟩ := hE.row 6 (by decide)
  obtain ⟨cForm, tForm, rForm⟩ := hE.row 0 (by decide)
  have nRange : Hid (ad 0 ≠ ad 1) := hE.ne 0 1 (by decide) (by decide) (by decide)
  have nFull : Hid (ad 0 ≠ ad 2) := hE.ne 0 2 (by decide) (by decide) (by decide)
  have nNone : Hid (ad 0 ≠ ad 3) := hE.ne 0 3 (by decide) (by decide) (by decide)
  have nExists : Hid (ad 0 ≠ ad 4) := hE.ne 0 4 (by decide) (by decide) (by decide)
  have nKind : Hid (ad 0 ≠ ad 5) := hE.ne 0 5 (by decide) (by decide) (by decide)
  have nState : Hid (ad 0 ≠ ad 6) := hE.ne 0 6 (by decide) (by decide) (by decide)
  have RRange : Hid (w.heap[(ad 1).block]? = some (.cells cRange tRange (0, 0))) := rRange; clear rRange
  have RFull : Hid (w.heap[(ad 2).block]? = some (.cells cFull tFull (0, 0))) := rFull; clear rFull
  have RNone : Hid (w.heap[(ad 3).block]? = some (.cells cNone tNone (0, 0))) := rNone; clear rNone
  have RExists : Hid (w.heap[(ad 4).block]? = some (.cells cExists tExists (0, 0))) := rExists; clear rExists
  have RKind : Hid (w.heap[(ad 5).block]? = some (.cells cKind tKind (0, 0))) := rKind; clear rKind
  have RState : Hid (w.heap[(ad 6).block]? = some (.cells cState tState (0, 0))) := rState; clear rState
  have RForm : Hid (w.heap[(ad 0).block]? = some (.cells cForm tForm (0, 0))) := rForm; clear rForm
  clear hE
  go_enter Tryd.func27, Tryd.ntmps27
  go_wp2_with fail
  refine wp_loop_rounds 7 ?_
  rw [rounds_succ]
  go_wp2_with (go_at_call 60; refine (is_other (ad 0) (ad 1) cForm cRange tForm tRange _ nRange.out (heap_alloc_old _ RForm.out) (heap_alloc_old _ RRange.out)).mono ?_; rintro e w' ⟨rfl, rfl⟩)
  rw [rounds_succ]
  go_wp2_with (go_at_call 60; refine (is_other (ad 0) (ad 2) cForm cFull tForm tFull _ nFull.out (heap_alloc_old _ RForm.out) (heap_alloc_old _ RFull.out)).mono ?_; rintro e w' ⟨rfl, rfl⟩)
  rw [rounds_succ]
  go_wp2_with (go_at_call 60; refine (is_other (ad 0) (ad 3) cForm cNone tForm tNone _ nNone.out (heap_alloc_old _ RForm.out) (heap_alloc_old _ RNone.out)).mono ?_; rintro e w' ⟨rfl, rfl⟩)
  rw [rounds_succ]
  go_wp2_with (go_at_call 60; refine (is_other (ad 0) (ad 4) cForm cExists tForm tExists _ nExists.out (heap_alloc_old _ RForm.out) (heap_alloc_old _ RExists.out)).mono ?_; rintro e w' ⟨rfl, rfl⟩)
  rw [rounds_succ]
  go_wp2_with (go_at_call 60; refine (is_other (ad 0) (ad 5) cForm cKind tForm tKind _ nKind.out (heap_alloc_old _ RForm.out) (heap_alloc_old _ RKind.out)).mono ?_; rintro e w' ⟨rfl, rfl⟩)
  rw [rounds_succ]
  go_wp2_with (go_at_call 60; refine (is_other (ad 0) (ad 6) cForm cState tForm tState _ nState.out (heap_alloc_old _ RForm.out) (heap_alloc_old _ RState.out)).mono ?_; rintro e w' ⟨rfl, rfl⟩)
  rw [rounds_succ]
  go_wp2_with (go_at_call 60; refine (is_same (ad 0) _).mono ?_; rintro e w' ⟨rfl, rfl⟩)
  go_ret
  exact ⟨rfl, (by repeat (first | exact Grew.refl _ | assumption | refine Grew.drew ?_ | refine Grew.alloc ?_ _ | refine Grew.setCell ?_ (by (try simp only [World.size_alloc, World.size_drew]); omega) _ | refine Grew.trans ?_ (by assumption)))⟩
end Go.Proofs.YtbgbfljbjpbinaaDoor

/- The walks of tiles.Map's small methods: Has, Count, Free, Grid. Conditions: the map's cells. -/
import Derived.Test.YtbgbfljbjpbinaaDoorMap1
namespace Go.Proofs.YtbgbfljbjpbinaaDoor
set_option linter.unusedSimpArgs false
set_option linter.unusedVariables false
open Go.RowKit

def hasN (N : Nat) (t : Int) : Bool := decide (0 ≤ t) && decide (t < N)
theorem has_any (P C N : Nat) (W H S X Y t : Int) (c : Nat → Int) (w : World) (hM : MapAt w P C N W H S X Y c) :
    Calls Tryd.prog 42 #[.pointer (some ⟨P, 0, none⟩), .int .i64 t] w fun e w' => e = .returned (.bool (hasN N t)) ∧ w = w' := by
  obtain ⟨K_hs, hs⟩ := hM.sl
  clear hM
  cases h0 : decide (0 ≤ t)
  · go_enter Tryd.func42, Tryd.ntmps42
    go_wp2
    go_ret
    exact ⟨by simp [hasN, *], rfl⟩
  · go_enter Tryd.func42, Tryd.ntmps42
    go_wp2
    go_ret
    exact ⟨by simp [hasN, *], rfl⟩
theorem count_in (P C N t : Nat) (W H S X Y : Int) (c : Nat → Int) (w : World) (hM : MapAt w P C N W H S X Y c) (ht : t < N) :
    Calls Tryd.prog 22 #[.pointer (some ⟨P, 0, none⟩), .int .i64 t] w fun e w' => e = .returned (.int .i64 (c t)) ∧ w = w' := by
  obtain ⟨K_hs, hs⟩ := hM.sl
  have hc := hM.cs t ht
  have hh : hasN N t = true := by simp [hasN]; omega
  have HM : Hid (MapAt w P C N W H S X Y c) := hM
  clear hM
  go_enter Tryd.func22, Tryd.ntmps22
  go_wp2_with (go_at_call 42; refine (has_any _ _ _ _ _ _ _ _ _ _ _ HM.out).mono ?_; rintro e w' ⟨rfl, rfl⟩)
  go_ret
  exact ⟨rfl, rfl⟩
theorem count_out (P C N : Nat) (W H S X Y t : Int) (c : Nat → Int) (w : World) (hM : MapAt w P C N W H S X Y c) (ht : hasN N t = false) :
    Calls Tryd.prog 22 #[.pointer (some ⟨P, 0, none⟩), .int .i64 t] w fun e w' => e = .returned (.int .i64 0) ∧ w = w' := by
  go_enter Tryd.func22, Tryd.ntmps22
  go_wp2_with (go_at_call 42; refine (has_any _ _ _ _ _ _ _ _ _ _ _ hM).mono ?_; rintro e w' ⟨rfl, rfl⟩)
  go_ret
  exact ⟨rfl, rfl⟩
theorem free_in (P C N t : Nat) (W H S X Y : Int) (c : Nat → Int) (w : World) (hM : MapAt w P C N W H S X Y c) (ht : t < N) :
    Calls Tryd.prog 23 #[.pointer (some ⟨P, 0, none⟩), .int .i64 t] w fun e w' => e = .returned (.bool (c t == 0)) ∧ w = w' := by
  obtain ⟨K_hs, hs⟩ := hM.sl
  have hc := hM.cs t ht
  have hh : hasN N t = true := by simp [hasN]; omega
  have HM : Hid (MapAt w P C N W H S X Y c) := hM
  clear hM
  go_enter Tryd.func23, Tryd.ntmps23
  go_wp2_with (go_at_call 42; refine (has_any _ _ _ _ _ _ _ _ _ _ _ HM.out).mono ?_; rintro e w' ⟨rfl, rfl⟩)
  go_ret
  exact ⟨rfl, rfl⟩
theorem free_out (P C N : Nat) (W H S X Y t : Int) (c : Nat → Int) (w : World) (hM : MapAt w P C N W H S X Y c) (ht : hasN N t = false) :
    Calls Tryd.prog 23 #[.pointer (some ⟨P, 0, none⟩), .int .i64 t] w fun e w' => e = .returned (.bool false) ∧ w = w' := by
  go_enter Tryd.func23, Tryd.ntmps23
  go_wp2_with (go_at_call 42; refine (has_any _ _ _ _ _ _ _ _ _ _ _ hM).mono ?_; rintro e w' ⟨rfl, rfl⟩)
  go_ret
  exact ⟨rfl, rfl⟩
theorem mgrid_any (P C N : Nat) (W H S X Y : Int) (c : Nat → Int) (w : World) (hM : MapAt w P C N W H S X Y c) :
    Calls Tryd.prog 36 #[.pointer (some ⟨P, 0, none⟩)] w fun e w' => e = .returned (.agg #[.int .i64 W, .int .i64 H, .int .i64 S, .int .i64 X, .int .i64 Y]) ∧ Grew w w' := by
  obtain ⟨g0, g1, g2, g3, g4, _, _, _, _, hP, _⟩ := hM
  go_enter Tryd.func36, Tryd.ntmps36
  go_wp2
  exact bodyPost_ret (v := .agg #[.int .i64 W, .int .i64 H, .int .i64 S, .int .i64 X, .int .i64 Y]) (by simp [results, Tryd.results36, go_sem, *]) rfl ⟨rfl, (by repeat (first | exact Grew.refl _ | assumption | refine Grew.drew ?_ | refine Grew.alloc ?_ _ | refine Grew.setCell ?_ (by (try simp only [World.size_alloc, World.size_drew]); omega) _ | refine Grew.trans ?_ (by assumption)))⟩
end Go.Proofs.YtbgbfljbjpbinaaDoor

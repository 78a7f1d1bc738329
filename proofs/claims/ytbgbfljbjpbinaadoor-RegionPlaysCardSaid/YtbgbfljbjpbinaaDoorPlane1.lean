/- The walks of package plane's functions that answer a bool or points. No conditions but the arguments' kinds. -/
import Derived.Test.YtbgbfljbjpbinaaDoorBase
import Derived.RegionTactic
import Derived.ChangeAlike
import Derived.BigRegion
import Derived.Deep.QuietTactic
import Derived.BigQuiet
namespace Go.Proofs.YtbgbfljbjpbinaaDoor
set_option linter.unusedSimpArgs false
set_option linter.unusedVariables false
open Go.RowKit

def withinB (n m : Int) : Bool := decide (-m ≤ n) && decide (n ≤ m)
theorem within_any (n m : Int) (w : World) (hm0 : 0 ≤ m) (hm : m ≤ 4194304) :
    Calls Tryd.prog 70 #[.int .i64 n, .int .i64 m] w fun e w' => e = .returned (.bool (withinB n m)) ∧ w = w' := by
  cases h1 : decide (-m ≤ n)
  all_goals
    go_enter Tryd.func70, Tryd.ntmps70
    go_wp2
    go_ret
    exact ⟨by simp [withinB, h1], rfl⟩

def reachB (x y : Int) : Bool := withinB x 4194304 && withinB y 4194304
theorem reach_any (x y : Int) (w : World) :
    Calls Tryd.prog 69 #[.agg #[.int .i64 x, .int .i64 y]] w fun e w' => e = .returned (.bool (reachB x y)) ∧ Grew w w' := by
  cases h1 : withinB x 4194304
  all_goals
    go_enter Tryd.func69, Tryd.ntmps69
    go_wp2_with (go_at_call 70; refine (within_any _ _ _ (by omega) (by omega)).mono ?_; rintro e w' ⟨rfl, rfl⟩)
    go_ret
    exact ⟨by simp [reachB, h1], (Grew.refl _).alloc _⟩

set_option maxHeartbeats 400000 in
theorem corners_any (x0 y0 x1 y1 : Int) (w : World) :
    Calls Tryd.prog 68 #[.agg #[.int .i64 x0, .int .i64 y0, .int .i64 x1, .int .i64 y1]] w fun e w' => e = .returned (.tuple #[.agg #[.int .i64 x0, .int .i64 y0], .agg #[.int .i64 x1, .int .i64 y1]]) ∧ Grew w w' := by
  go_enter Tryd.func68, Tryd.ntmps68
  go_wp2
  go_region
  go_wp2
  exact bodyPost_ret (v := .tuple #[.agg #[.int .i64 x0, .int .i64 y0], .agg #[.int .i64 x1, .int .i64 y1]]) (by simp [results, Tryd.results68, go_sem]) rfl ⟨rfl, ((((Grew.refl _).alloc _).alloc _).alloc _).drew⟩

def rightB (x0 y0 x1 y1 : Int) : Bool := decide (x0 ≤ x1) && decide (y0 ≤ y1) && reachB x0 y0 && reachB x1 y1
set_option maxHeartbeats 4000000 in
theorem right_any (x0 y0 x1 y1 : Int) (w : World) :
    Calls Tryd.prog 53 #[.agg #[.int .i64 x0, .int .i64 y0, .int .i64 x1, .int .i64 y1]] w fun e w' => e = .returned (.bool (rightB x0 y0 x1 y1)) ∧ Grew w w' := by
  cases h1 : decide (x0 ≤ x1) <;> cases h2 : decide (y0 ≤ y1) <;> cases h3 : reachB x0 y0
  all_goals
    go_enter Tryd.func53, Tryd.ntmps53
    go_wp2_with (first | (go_at_call 68; refine (corners_any _ _ _ _ _).mono ?_; rintro e w1 ⟨rfl, hb⟩; obtain ⟨hc, hf⟩ := hb.facts; have hz := hb.size; (try simp only [World.size_alloc, World.size_drew] at hz); (try (have hcq := fun o => hc (w.heap.size) o (by (try simp only [World.size_alloc, World.size_drew]); omega))); (try (have hcq := fun o => hc (w.heap.size + 1) o (by (try simp only [World.size_alloc, World.size_drew]); omega))); (try (have hcq := fun o => hc (w.heap.size + 1 + 1) o (by (try simp only [World.size_alloc, World.size_drew]); omega))); (try (have hcq := fun o => hc (w.heap.size + 1 + 1 + 1) o (by (try simp only [World.size_alloc, World.size_drew]); omega))); (try (have hcq := fun o => hc (w1.heap.size) o (by (try simp only [World.size_alloc, World.size_drew]); omega))); (try (have hcq := fun o => hc (w1.heap.size + 1) o (by (try simp only [World.size_alloc, World.size_drew]); omega))); (try (have hcq := fun o => hc (w2.heap.size) o (by (try simp only [World.size_alloc, World.size_drew]); omega))); (try (have hcq := fun o => hc (w2.heap.size + 1) o (by (try simp only [World.size_alloc, World.size_drew]); omega))); (try (have hcq := fun o => hc (0) o (by (try simp only [World.size_alloc, World.size_drew]); omega))); (try (have hcq := fun o => hc (1) o (by (try simp only [World.size_alloc, World.size_drew]); omega))); (try (have hcq := fun o => hc (2) o (by (try simp only [World.size_alloc, World.size_drew]); omega))); (try (have hq : w.heap.size < w1.heap.size := by omega)); (try (have hq : w.heap.size + 1 < w1.heap.size := by omega)); (try (have hq : w.heap.size + 1 + 1 < w1.heap.size := by omega)); (try (have hq : w.heap.size + 1 + 1 + 1 < w1.heap.size := by omega)); (try (have hq : w1.heap.size < w1.heap.size := by omega)); (try (have hq : w1.heap.size + 1 < w1.heap.size := by omega)); (try (have hq : w2.heap.size < w1.heap.size := by omega)); (try (have hq : w2.heap.size + 1 < w1.heap.size := by omega)); (try (have hq : 0 < w1.heap.size := by omega)); (try (have hq : 1 < w1.heap.size := by omega)); (try (have hq : 2 < w1.heap.size := by omega))) | (go_at_call 69; refine (reach_any _ _ _).mono ?_; rintro e w' ⟨rfl, hb⟩; obtain ⟨hc, hf⟩ := hb.facts; have hz := hb.size; (try simp only [World.size_alloc, World.size_drew] at hz); (try (have hcq := fun o => hc (w.heap.size) o (by (try simp only [World.size_alloc, World.size_drew]); omega))); (try (have hcq := fun o => hc (w.heap.size + 1) o (by (try simp only [World.size_alloc, World.size_drew]); omega))); (try (have hcq := fun o => hc (w.heap.size + 1 + 1) o (by (try simp only [World.size_alloc, World.size_drew]); omega))); (try (have hcq := fun o => hc (w.heap.size + 1 + 1 + 1) o (by (try simp only [World.size_alloc, World.size_drew]); omega))); (try (have hcq := fun o => hc (w1.heap.size) o (by (try simp only [World.size_alloc, World.size_drew]); omega))); (try (have hcq := fun o => hc (w1.heap.size + 1) o (by (try simp only [World.size_alloc, World.size_drew]); omega))); (try (have hcq := fun o => hc (w2.heap.size) o (by (try simp only [World.size_alloc, World.size_drew]); omega))); (try (have hcq := fun o => hc (w2.heap.size + 1) o (by (try simp only [World.size_alloc, World.size_drew]); omega))); (try (have hcq := fun o => hc (0) o (by (try simp only [World.size_alloc, World.size_drew]); omega))); (try (have hcq := fun o => hc (1) o (by (try simp only [World.size_alloc, World.size_drew]); omega))); (try (have hcq := fun o => hc (2) o (by (try simp only [World.size_alloc, World.size_drew]); omega))); (try (have hq : w.heap.size < w'.heap.size := by omega)); (try (have hq : w.heap.size + 1 < w'.heap.size := by omega)); (try (have hq : w.heap.size + 1 + 1 < w'.heap.size := by omega)); (try (have hq : w.heap.size + 1 + 1 + 1 < w'.heap.size := by omega)); (try (have hq : w1.heap.size < w'.heap.size := by omega)); (try (have hq : w1.heap.size + 1 < w'.heap.size := by omega)); (try (have hq : w2.heap.size < w'.heap.size := by omega)); (try (have hq : w2.heap.size + 1 < w'.heap.size := by omega)); (try (have hq : 0 < w'.heap.size := by omega)); (try (have hq : 1 < w'.heap.size := by omega)); (try (have hq : 2 < w'.heap.size := by omega))))
    go_ret
    exact ⟨by simp [rightB, h1, h2, h3], (by repeat (first | exact Grew.refl _ | assumption | refine Grew.drew ?_ | refine Grew.alloc ?_ _ | refine Grew.setCell ?_ (by (try simp only [World.size_alloc, World.size_drew]); omega) _ | refine Grew.trans ?_ (by assumption)))⟩
end Go.Proofs.YtbgbfljbjpbinaaDoor

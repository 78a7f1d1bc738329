/- The walks of the reference's functions of layer 1. No conditions but the arguments' kinds. -/
import Derived.Test.YtbgbfljbjpbinaaDoorPlane1
namespace Go.Proofs.YtbgbfljbjpbinaaDoor
set_option linter.unusedSimpArgs false
set_option linter.unusedVariables false
open Go.RowKit

theorem rin_any (n m : Int) (w : World) (hm0 : 0 ≤ m) (hm : m ≤ 4194304) :
    Calls Tryd.prog 59 #[.int .i64 n, .int .i64 m] w fun e w' => e = .returned (.bool (withinB n m)) ∧ w = w' := by
  cases h1 : decide (n ≤ m)
  all_goals
    go_enter Tryd.func59, Tryd.ntmps59
    go_wp2
    go_ret
    exact ⟨by simp [withinB, h1], rfl⟩


theorem rightB_eq (x0 y0 x1 y1 : Int) : rightB x0 y0 x1 y1 = (withinB x0 4194304 && withinB x1 4194304 && withinB y0 4194304 && withinB y1 4194304 && decide (x0 ≤ x1) && decide (y0 ≤ y1)) := by
  simp only [rightB, reachB]
  cases withinB x0 4194304 <;> cases withinB x1 4194304 <;> cases withinB y0 4194304 <;> cases withinB y1 4194304 <;> simp
set_option maxHeartbeats 4000000 in
theorem rright_any (x0 y0 x1 y1 : Int) (w : World) :
    Calls Tryd.prog 55 #[.agg #[.int .i64 x0, .int .i64 y0, .int .i64 x1, .int .i64 y1]] w fun e w' => e = .returned (.bool (rightB x0 y0 x1 y1)) ∧ Grew w w' := by
  cases h1 : withinB x0 4194304
  · go_enter Tryd.func55, Tryd.ntmps55
    go_wp2_with (go_at_call 59; refine (rin_any _ _ _ (by omega) (by omega)).mono ?_; rintro e w' ⟨rfl, rfl⟩)
    go_ret
    exact ⟨by simp [rightB_eq, h1], (by repeat (first | exact Grew.refl _ | assumption | refine Grew.drew ?_ | refine Grew.alloc ?_ _ | refine Grew.setCell ?_ (by (try simp only [World.size_alloc, World.size_drew]); omega) _ | refine Grew.trans ?_ (by assumption)))⟩
  cases h2 : withinB x1 4194304
  · go_enter Tryd.func55, Tryd.ntmps55
    go_wp2_with (go_at_call 59; refine (rin_any _ _ _ (by omega) (by omega)).mono ?_; rintro e w' ⟨rfl, rfl⟩)
    go_ret
    exact ⟨by simp [rightB_eq, h1, h2], (by repeat (first | exact Grew.refl _ | assumption | refine Grew.drew ?_ | refine Grew.alloc ?_ _ | refine Grew.setCell ?_ (by (try simp only [World.size_alloc, World.size_drew]); omega) _ | refine Grew.trans ?_ (by assumption)))⟩
  cases h3 : withinB y0 4194304
  · go_enter Tryd.func55, Tryd.ntmps55
    go_wp2_with (go_at_call 59; refine (rin_any _ _ _ (by omega) (by omega)).mono ?_; rintro e w' ⟨rfl, rfl⟩)
    go_ret
    exact ⟨by simp [rightB_eq, h1, h2, h3], (by repeat (first | exact Grew.refl _ | assumption | refine Grew.drew ?_ | refine Grew.alloc ?_ _ | refine Grew.setCell ?_ (by (try simp only [World.size_alloc, World.size_drew]); omega) _ | refine Grew.trans ?_ (by assumption)))⟩
  cases h4 : withinB y1 4194304 <;> cases h5 : decide (x0 ≤ x1)
  all_goals
    go_enter Tryd.func55, Tryd.ntmps55
    go_wp2_with (go_at_call 59; refine (rin_any _ _ _ (by omega) (by omega)).mono ?_; rintro e w' ⟨rfl, rfl⟩)
    go_ret
    exact ⟨by simp [rightB_eq, h1, h2, h3, h4, h5], (by repeat (first | exact Grew.refl _ | assumption | refine Grew.drew ?_ | refine Grew.alloc ?_ _ | refine Grew.setCell ?_ (by (try simp only [World.size_alloc, World.size_drew]); omega) _ | refine Grew.trans ?_ (by assumption)))⟩

def rhasB (x0 y0 x1 y1 p q : Int) : Bool := decide (x0 ≤ p) && decide (p ≤ x1) && decide (y0 ≤ q) && decide (q ≤ y1)
set_option maxHeartbeats 4000000 in
theorem rhas_any (x0 y0 x1 y1 p q : Int) (w : World) :
    Calls Tryd.prog 58 #[.agg #[.int .i64 x0, .int .i64 y0, .int .i64 x1, .int .i64 y1], .agg #[.int .i64 p, .int .i64 q]] w fun e w' => e = .returned (.bool (rhasB x0 y0 x1 y1 p q)) ∧ Grew w w' := by
  cases h2 : decide (x0 ≤ p) <;> cases h3 : decide (p ≤ x1) <;> cases h4 : decide (y0 ≤ q)
  all_goals
    go_enter Tryd.func58, Tryd.ntmps58
    go_wp2
    go_ret
    exact ⟨by simp [rhasB, h2, h3, h4], (by repeat (first | exact Grew.refl _ | assumption | refine Grew.drew ?_ | refine Grew.alloc ?_ _ | refine Grew.setCell ?_ (by (try simp only [World.size_alloc, World.size_drew]); omega) _ | refine Grew.trans ?_ (by assumption)))⟩

def rmeetsB (a0 a1 a2 a3 b0 b1 b2 b3 : Int) : Bool := !(decide (a2 < b0) || decide (b2 < a0) || decide (a3 < b1) || decide (b3 < a1))
set_option maxHeartbeats 4000000 in
theorem rmeets_any (a0 a1 a2 a3 b0 b1 b2 b3 : Int) (w : World) :
    Calls Tryd.prog 56 #[.agg #[.int .i64 a0, .int .i64 a1, .int .i64 a2, .int .i64 a3], .agg #[.int .i64 b0, .int .i64 b1, .int .i64 b2, .int .i64 b3]] w fun e w' => e = .returned (.bool (rmeetsB a0 a1 a2 a3 b0 b1 b2 b3)) ∧ Grew w w' := by
  cases h2 : decide (a2 < b0) <;> cases h3 : decide (b2 < a0) <;> cases h4 : decide (a3 < b1)
  all_goals
    go_enter Tryd.func56, Tryd.ntmps56
    go_wp2
    go_ret
    exact ⟨by simp [rmeetsB, h2, h3, h4], (by repeat (first | exact Grew.refl _ | assumption | refine Grew.drew ?_ | refine Grew.alloc ?_ _ | refine Grew.setCell ?_ (by (try simp only [World.size_alloc, World.size_drew]); omega) _ | refine Grew.trans ?_ (by assumption)))⟩
end Go.Proofs.YtbgbfljbjpbinaaDoor

/- The plain law of Under: a tile meets a box just where its row and its column lie between those of the box's clamped corners. No program in sight. -/
import Derived.Test.YtbgbfljbjpbinaaDoorTiles6
namespace Go.Proofs.YtbgbfljbjpbinaaDoor
set_option linter.unusedSimpArgs false
set_option linter.unusedVariables false
open Go.RowKit

theorem passed_skip {f : Nat → Bool} {i j : Nat} (h : i ≤ j) (hm : ∀ k, i ≤ k → k < j → f k = false) : passed f j = passed f i := by
  obtain ⟨d, rfl⟩ := Nat.exists_eq_add_of_le h
  induction d with
  | zero => rfl
  | succ d ih =>
    have h1 : passed f (i + d) = passed f i := ih (by omega) (fun k h1 h2 => hm k h1 (by omega))
    have := hm (i + d) (by omega) (by omega)
    rw [← Nat.add_assoc, passed_miss this, h1]
theorem rightB_le {a b c d : Int} (h : rightB a b c d = true) : a ≤ c ∧ b ≤ d := by
  simp only [rightB, Bool.and_eq_true, decide_eq_true_eq] at h; exact ⟨h.1.1.1, h.1.1.2⟩
theorem cell_lt {a b S : Int} (hS : 1 ≤ S) (h : a * S < b * S + S) : a ≤ b := by
  apply Int.le_of_not_gt; intro hlt
  have := Int.mul_le_mul_of_nonneg_right (show b + 1 ≤ a by omega) (show 0 ≤ S by omega)
  rw [Int.add_mul, Int.one_mul] at this; omega
theorem quo_le {n S c q : Int} (hS : 1 ≤ S) (h0 : q * S ≤ n) (h1 : n < q * S + S) : q ≤ c ↔ n < c * S + S := by
  constructor
  · intro h; have := Int.mul_le_mul_of_nonneg_right h (show 0 ≤ S by omega); omega
  · intro h; exact cell_lt hS (by omega)
theorem quo_ge {n S c q : Int} (hS : 1 ≤ S) (h0 : q * S ≤ n) (h1 : n < q * S + S) : c ≤ q ↔ c * S ≤ n := by
  constructor
  · intro h; have := Int.mul_le_mul_of_nonneg_right h (show 0 ≤ S by omega); omega
  · intro h; exact cell_lt hS (by omega)
theorem split_no {r c W : Int} (h0 : 0 ≤ r) (h1 : 0 ≤ c) (h2 : c < W) : (r * W + c).tmod W = c ∧ (r * W + c).tdiv W = r := by
  have hp := Int.mul_nonneg h0 (show 0 ≤ W by omega)
  rw [Int.tmod_eq_emod_of_nonneg (by omega), Int.tdiv_eq_ediv_of_nonneg (by omega), Int.add_comm, Int.add_mul_emod_self_right, Int.add_mul_ediv_right _ _ (by omega), Int.emod_eq_of_lt h1 h2, Int.ediv_eq_zero_of_lt h1 h2]
  simp

/-- The clamped corners lie in the grid. -/
def insideG (W H S X Y b0 b1 b2 b3 : Int) : Prop := b0 < X + W * S ∧ X ≤ b2 ∧ b1 < Y + H * S ∧ Y ≤ b3
def colA (S X b0 : Int) : Int := (max b0 X - X).tdiv S
def colB (W S X b2 : Int) : Int := (min b2 (X + W * S - 1) - X).tdiv S

theorem meets_cell {W H S X Y b0 b1 b2 b3 r c : Int} (h : gridB W H S X Y = true) (hb : rightB b0 b1 b2 b3 = true) (hi : insideG W H S X Y b0 b1 b2 b3) (r0 : 0 ≤ r) (r1 : r < H) (c0 : 0 ≤ c) (c1 : c < W) :
    meetsT W S X Y b0 b1 b2 b3 (r * W + c) = (decide (colA S Y b1 ≤ r) && decide (r ≤ colB H S Y b3) && decide (colA S X b0 ≤ c) && decide (c ≤ colB W S X b2)) := by
  obtain ⟨⟨f1, f2, f3, f4⟩, ⟨f5, f6, f7, f8, f9, f10⟩, fW, fH, fA⟩ := grid_facts h
  obtain ⟨i0, i1, i2, i3⟩ := hi
  obtain ⟨e1, e2⟩ := rightB_le hb
  obtain ⟨s1, s2⟩ := split_no r0 c0 c1
  obtain ⟨a0, a1, a2, a3⟩ := quo_facts (n := max b0 X - X) (S := S) (H := W) (by omega) (by omega) (by omega)
  obtain ⟨p0, p1, p2, p3⟩ := quo_facts (n := min b2 (X + W * S - 1) - X) (S := S) (H := W) (by omega) (by omega) (by omega)
  obtain ⟨d0, d1, d2, d3⟩ := quo_facts (n := max b1 Y - Y) (S := S) (H := H) (by omega) (by omega) (by omega)
  obtain ⟨q0, q1, q2, q3⟩ := quo_facts (n := min b3 (Y + H * S - 1) - Y) (S := S) (H := H) (by omega) (by omega) (by omega)
  have u1 := quo_le (c := c) f9 a2 a3
  have u2 := quo_ge (c := c) f9 p2 p3
  have u3 := quo_le (c := r) f9 d2 d3
  have u4 := quo_ge (c := r) f9 q2 q3
  have l1 := Int.mul_nonneg c0 (show 0 ≤ S by omega)
  have l2 := Int.mul_nonneg r0 (show 0 ≤ S by omega)
  have l3 := Int.mul_le_mul_of_nonneg_right (show c + 1 ≤ W by omega) (show 0 ≤ S by omega)
  have l4 := Int.mul_le_mul_of_nonneg_right (show r + 1 ≤ H by omega) (show 0 ≤ S by omega)
  rw [Int.add_mul, Int.one_mul] at l3 l4
  rw [Bool.eq_iff_iff]
  simp only [meetsT, rmeetsB, tileX, tileY, s1, s2, Bool.and_eq_true, Bool.not_eq_true', Bool.or_eq_false_iff, decide_eq_true_eq, decide_eq_false_iff_not]
  unfold colA colB
  rw [u1, u2, u3, u4]
  generalize c * S = cs at *
  generalize r * S = rs at *
  generalize W * S = ws at *
  generalize H * S = hs at *
  clear u1 u2 u3 u4 a2 a3 p2 p3 d2 d3 q2 q3 s1 s2 a0 a1 p0 p1 d0 d1 q0 q1
  omega

theorem meets_out {W H S X Y b0 b1 b2 b3 t : Int} (h : gridB W H S X Y = true) (hb : rightB b0 b1 b2 b3 = true) (hi : ¬ insideG W H S X Y b0 b1 b2 b3) (h0 : 0 ≤ t) (h1 : t < W * H) : meetsT W S X Y b0 b1 b2 b3 t = false := by
  obtain ⟨_, ⟨_, _, _, _, f9, _⟩, _, _, _⟩ := grid_facts h
  obtain ⟨e1, e2⟩ := rightB_le hb
  obtain ⟨t0, t1, t2, t3⟩ := tile_bounds h h0 h1
  rw [Bool.eq_false_iff]
  intro hm
  apply hi
  simp only [meetsT, rmeetsB, Bool.not_eq_true', Bool.or_eq_false_iff, decide_eq_false_iff_not] at hm
  unfold insideG
  omega

/-- The clamped corners' rows and columns. -/
theorem corner_facts {W H S X Y b0 b1 b2 b3 : Int} (h : gridB W H S X Y = true) (hb : rightB b0 b1 b2 b3 = true) (hi : insideG W H S X Y b0 b1 b2 b3) :
    (0 ≤ colA S X b0 ∧ colA S X b0 ≤ colB W S X b2 ∧ colB W S X b2 < W) ∧ (0 ≤ colA S Y b1 ∧ colA S Y b1 ≤ colB H S Y b3 ∧ colB H S Y b3 < H) := by
  obtain ⟨⟨f1, f2, f3, f4⟩, ⟨f5, f6, f7, f8, f9, f10⟩, fW, fH, fA⟩ := grid_facts h
  obtain ⟨i0, i1, i2, i3⟩ := hi
  obtain ⟨e1, e2⟩ := rightB_le hb
  obtain ⟨a0, a1, a2, a3⟩ := quo_facts (n := max b0 X - X) (S := S) (H := W) (by omega) (by omega) (by omega)
  obtain ⟨p0, p1, p2, p3⟩ := quo_facts (n := min b2 (X + W * S - 1) - X) (S := S) (H := W) (by omega) (by omega) (by omega)
  obtain ⟨d0, d1, d2, d3⟩ := quo_facts (n := max b1 Y - Y) (S := S) (H := H) (by omega) (by omega) (by omega)
  obtain ⟨q0, q1, q2, q3⟩ := quo_facts (n := min b3 (Y + H * S - 1) - Y) (S := S) (H := H) (by omega) (by omega) (by omega)
  refine ⟨⟨a0, cell_lt f9 (?_ : _ < _), p1⟩, d0, cell_lt f9 (?_ : _ < _), q1⟩
  · show (max b0 X - X).tdiv S * S < (min b2 (X + W * S - 1) - X).tdiv S * S + S
    omega
  · show (max b1 Y - Y).tdiv S * S < (min b3 (Y + H * S - 1) - Y).tdiv S * S + S
    omega
end Go.Proofs.YtbgbfljbjpbinaaDoor

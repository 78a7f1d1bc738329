/- Both At as one function: which tile has a point. Conditions: the sentinel's cell for the program's. -/
import Derived.Test.YtbgbfljbjpbinaaDoorTiles3
import Derived.Test.YtbgbfljbjpbinaaDoorTiles5
import Derived.Test.YtbgbfljbjpbinaaDoorUnder
namespace Go.Proofs.YtbgbfljbjpbinaaDoor
set_option linter.unusedSimpArgs false
set_option linter.unusedVariables false
open Go.RowKit

def insideP (W H S X Y p q : Int) : Bool := gridB W H S X Y && decide (X ≤ p) && decide (p < X + W * S) && decide (Y ≤ q) && decide (q < Y + H * S)
def atV (W H S X Y p q : Int) : Int := if insideP W H S X Y p q then atI W S X Y p q else -1

theorem insideP_iff {W H S X Y p q : Int} : insideP W H S X Y p q = true ↔ gridB W H S X Y = true ∧ X ≤ p ∧ p < X + W * S ∧ Y ≤ q ∧ q < Y + H * S := by
  simp only [insideP, Bool.and_eq_true, decide_eq_true_eq, and_assoc]

theorem tile_back {W H t : Int} (h0 : 0 ≤ t) (hW : 1 ≤ W) (h1 : t < W * H) : t = t.tdiv W * W + t.tmod W ∧ 0 ≤ t.tmod W ∧ t.tmod W < W ∧ 0 ≤ t.tdiv W ∧ t.tdiv W < H := by
  have e := Int.mul_tdiv_add_tmod t W
  obtain ⟨q0, q1, q2, q3⟩ := quo_facts (n := t) (S := W) (H := H) h0 hW (by rw [Int.mul_comm]; exact h1)
  refine ⟨by rw [Int.mul_comm]; exact e.symm, ?_, ?_, q0, q1⟩
  · rw [Int.tmod_eq_emod_of_nonneg h0]; exact Int.emod_nonneg _ (by omega)
  · rw [Int.tmod_eq_emod_of_nonneg h0]; exact Int.emod_lt_of_pos _ (by omega)

theorem at_range {W H S X Y p q : Int} (h : insideP W H S X Y p q = true) : 0 ≤ atI W S X Y p q ∧ atI W S X Y p q < W * H ∧ (atI W S X Y p q).tmod W = (p - X).tdiv S ∧ (atI W S X Y p q).tdiv W = (q - Y).tdiv S := by
  obtain ⟨hg, i0, i1, i2, i3⟩ := insideP_iff.1 h
  obtain ⟨⟨f1, f2, f3, f4⟩, ⟨f5, f6, f7, f8, f9, f10⟩, fW, fH, fA⟩ := grid_facts hg
  obtain ⟨a0, a1, a2, a3⟩ := quo_facts (n := p - X) (S := S) (H := W) (by omega) (by omega) (by omega)
  obtain ⟨d0, d1, d2, d3⟩ := quo_facts (n := q - Y) (S := S) (H := H) (by omega) (by omega) (by omega)
  obtain ⟨s1, s2⟩ := split_no (W := W) d0 a0 a1
  have l := Int.mul_nonneg d0 (show 0 ≤ W by omega)
  have u := Int.mul_le_mul_of_nonneg_right (show (q - Y).tdiv S + 1 ≤ H by omega) (show 0 ≤ W by omega)
  rw [Int.add_mul, Int.one_mul, Int.mul_comm H W] at u
  refine ⟨?_, ?_, s1, s2⟩ <;> unfold atI <;> omega

theorem has_eq {W H S X Y p q t : Int} (hg : gridB W H S X Y = true) (h0 : 0 ≤ t) (h1 : t < W * H) : hasT W S X Y p q t = (insideP W H S X Y p q && decide (t = atI W S X Y p q)) := by
  obtain ⟨⟨f1, f2, f3, f4⟩, ⟨f5, f6, f7, f8, f9, f10⟩, fW, fH, fA⟩ := grid_facts hg
  obtain ⟨t0, t1, t2, t3⟩ := tile_bounds hg h0 h1
  obtain ⟨e, m0, m1, d0, d1⟩ := tile_back h0 f5 h1
  rw [Bool.eq_iff_iff]
  simp only [hasT, rhasB, Bool.and_eq_true, decide_eq_true_eq]
  constructor
  · rintro ⟨⟨⟨u1, u2⟩, u3⟩, u4⟩
    have hi : insideP W H S X Y p q = true := insideP_iff.2 ⟨hg, by omega, by omega, by omega, by omega⟩
    refine ⟨hi, ?_⟩
    unfold tileX at *
    unfold tileY at *
    obtain ⟨a0, a1, a2, a3⟩ := quo_facts (n := p - X) (S := S) (H := W) (by omega) (by omega) (by omega)
    obtain ⟨b0, b1, b2, b3⟩ := quo_facts (n := q - Y) (S := S) (H := H) (by omega) (by omega) (by omega)
    have e1 : t.tmod W = (p - X).tdiv S := Int.le_antisymm (cell_lt f9 (by omega)) (cell_lt f9 (by omega))
    have e2 : t.tdiv W = (q - Y).tdiv S := Int.le_antisymm (cell_lt f9 (by omega)) (cell_lt f9 (by omega))
    rw [e1, e2] at e
    exact e
  · rintro ⟨hi, rfl⟩
    obtain ⟨_, i0, i1, i2, i3⟩ := insideP_iff.1 hi
    obtain ⟨_, _, s1, s2⟩ := at_range hi
    obtain ⟨a0, a1, a2, a3⟩ := quo_facts (n := p - X) (S := S) (H := W) (by omega) (by omega) (by omega)
    obtain ⟨b0, b1, b2, b3⟩ := quo_facts (n := q - Y) (S := S) (H := H) (by omega) (by omega) (by omega)
    simp only [tileX, tileY, s1, s2]
    refine ⟨⟨⟨?_, ?_⟩, ?_⟩, ?_⟩ <;> omega

theorem atV_nonneg (W H S X Y p q : Int) : decide (0 ≤ atV W H S X Y p q) = insideP W H S X Y p q := by
  unfold atV
  cases h : insideP W H S X Y p q
  · rfl
  · simp [(at_range h).1]

theorem rat_any (W H S X Y p q : Int) (w : World) :
    Calls Tryd.prog 25 #[.agg #[.int .i64 W, .int .i64 H, .int .i64 S, .int .i64 X, .int .i64 Y], .agg #[.int .i64 p, .int .i64 q]] w fun e w' => e = .returned (.int .i64 (atV W H S X Y p q)) ∧ Grew w w' := by
  cases hg : gridB W H S X Y
  · have : atV W H S X Y p q = -1 := by simp [atV, insideP, hg]
    rw [this]
    exact rat_form W H S X Y p q w hg
  obtain ⟨_, _, _, _, fA⟩ := grid_facts hg
  cases hi : insideP W H S X Y p q
  · have := rat_core W H S X Y p q w hg (W * H).toNat (by omega) (fun k hk => by rw [has_eq hg (by omega) (by omega), hi]; rfl) (fun h => by omega)
    rw [if_neg (by omega)] at this
    simpa [atV, hi] using this
  · obtain ⟨a0, a1, _, _⟩ := at_range hi
    obtain ⟨m, hm⟩ : ∃ m : Nat, (m : Int) = atI W S X Y p q := ⟨(atI W S X Y p q).toNat, by omega⟩
    have := rat_core W H S X Y p q w hg m (by omega) (fun k hk => by rw [has_eq hg (by omega) (by omega), hi, ← hm]; simp; omega) (fun h => by rw [has_eq hg (by omega) (by omega), hi, ← hm]; simp)
    rw [if_pos (by omega), hm] at this
    simpa [atV, hi] using this

theorem at_any (W H S X Y p q : Int) (w : World) (a : Addr) (hg : w.cell? ⟨1, 0, none⟩ = some (.iface 130 (.pointer (some a)))) :
    Calls Tryd.prog 19 #[.agg #[.int .i64 W, .int .i64 H, .int .i64 S, .int .i64 X, .int .i64 Y], .agg #[.int .i64 p, .int .i64 q]] w fun e w' => e = .returned (.tuple #[.int .i64 (atV W H S X Y p q), .bool (insideP W H S X Y p q)]) ∧ Grew w w' := by
  unfold atV
  cases hi : insideP W H S X Y p q
  · refine at_out W H S X Y p q w a hg fun h => ?_
    rw [insideP_iff.2 h] at hi; cases hi
  · obtain ⟨h, h0, h1, h2, h3⟩ := insideP_iff.1 hi
    exact at_in W H S X Y p q w a hg h h0 h1 h2 h3
end Go.Proofs.YtbgbfljbjpbinaaDoor

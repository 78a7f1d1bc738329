/- Both Under as one function: the list of the tiles that a box covers. Conditions: the sentinel's cell for the program's. -/
import Derived.Test.YtbgbfljbjpbinaaDoorTiles8
import Derived.Test.YtbgbfljbjpbinaaDoorTiles9
namespace Go.Proofs.YtbgbfljbjpbinaaDoor
set_option linter.unusedSimpArgs false
set_option linter.unusedVariables false
open Go.RowKit

def underN (W H S X Y b0 b1 b2 b3 : Int) : Nat → Bool := fun t => gridB W H S X Y && rightB b0 b1 b2 b3 && meetsT W S X Y b0 b1 b2 b3 t
def underL (W H S X Y b0 b1 b2 b3 : Int) : List Int := passed (underN W H S X Y b0 b1 b2 b3) (W * H).toNat

theorem passed_congr {f g : Nat → Bool} {n : Nat} (h : ∀ k, k < n → f k = g k) : passed f n = passed g n := by
  induction n with
  | zero => rfl
  | succ n ih =>
    have e := h n (by omega)
    have r := ih fun k hk => h k (by omega)
    cases hg : g n
    · rw [passed_miss hg, passed_miss (e.trans hg), r]
    · rw [passed_hit hg, passed_hit (e.trans hg), r]
theorem passed_none {f : Nat → Bool} {n : Nat} (h : ∀ k, k < n → f k = false) : passed f n = [] :=
  (passed_skip (i := 0) (Nat.zero_le _) fun k _ hk => h k hk).trans rfl

theorem underL_no {W H S X Y b0 b1 b2 b3 : Int} (h : (gridB W H S X Y && rightB b0 b1 b2 b3) = false) : underL W H S X Y b0 b1 b2 b3 = [] :=
  passed_none fun k _ => by simp [underN, h]
theorem underL_yes {W H S X Y b0 b1 b2 b3 : Int} (h : gridB W H S X Y = true) (h' : rightB b0 b1 b2 b3 = true) : underL W H S X Y b0 b1 b2 b3 = passed (fun t => meetsT W S X Y b0 b1 b2 b3 t) (W * H).toNat :=
  passed_congr fun k _ => by simp [underN, h, h']
theorem underL_le {W H S X Y b0 b1 b2 b3 : Int} : (underL W H S X Y b0 b1 b2 b3).length ≤ 1024 := by
  by_cases h : gridB W H S X Y = true
  · obtain ⟨_, _, _, _, fA⟩ := grid_facts h
    have := passed_le (underN W H S X Y b0 b1 b2 b3) (W * H).toNat
    unfold underL; omega
  · rw [underL_no (by simp [h])]; simp

theorem runder_new (W H S X Y b0 b1 b2 b3 : Int) (w : World) :
    Calls Tryd.prog 16 #[.agg #[.int .i64 W, .int .i64 H, .int .i64 S, .int .i64 X, .int .i64 Y], .agg #[.int .i64 b0, .int .i64 b1, .int .i64 b2, .int .i64 b3]] w fun e w' => (∃ v, e = .returned v ∧ NewInts w' v (underL W H S X Y b0 b1 b2 b3) w.heap.size) ∧ Grew w w' := by
  by_cases h : (gridB W H S X Y && rightB b0 b1 b2 b3) = true
  · obtain ⟨h1, h2⟩ := Bool.and_eq_true_iff.1 h
    obtain ⟨_, _, _, _, fA⟩ := grid_facts h1
    rw [underL_yes h1 h2]
    exact runder_yes W H S X Y b0 b1 b2 b3 w h1 h2 (W * H).toNat (by omega)
  · have h' : (gridB W H S X Y && rightB b0 b1 b2 b3) = false := by simpa using h
    rw [underL_no h']
    exact runder_no W H S X Y b0 b1 b2 b3 w h'

theorem under_new (W H S X Y b0 b1 b2 b3 : Int) (w : World) (a : Addr) (hg : w.cell? ⟨1, 0, none⟩ = some (.iface 130 (.pointer (some a)))) :
    Calls Tryd.prog 15 #[.agg #[.int .i64 W, .int .i64 H, .int .i64 S, .int .i64 X, .int .i64 Y], .agg #[.int .i64 b0, .int .i64 b1, .int .i64 b2, .int .i64 b3]] w fun e w' => (∃ v, e = .returned v ∧ NewInts w' v (underL W H S X Y b0 b1 b2 b3) w.heap.size) ∧ Grew w w' := by
  by_cases h : (gridB W H S X Y && rightB b0 b1 b2 b3) = true
  rotate_left
  · have h' : (gridB W H S X Y && rightB b0 b1 b2 b3) = false := by simpa using h
    rw [underL_no h']
    exact under_no W H S X Y b0 b1 b2 b3 w a hg h'
  obtain ⟨h1, h2⟩ := Bool.and_eq_true_iff.1 h
  obtain ⟨⟨f1, f2, f3, f4⟩, ⟨f5, f6, f7, f8, f9, f10⟩, fW, fH, fA⟩ := grid_facts h1
  obtain ⟨e1, e2⟩ := rightB_le h2
  have wx := wholeX_eq ⟨f1, f2⟩ fW
  have wy := wholeX_eq ⟨f3, f4⟩ fH
  have m0 : (if b0 < X then X else b0) = max b0 X := by split <;> omega
  have m1 : (if b1 < Y then Y else b1) = max b1 Y := by split <;> omega
  have m2 : (if wholeX W S X < b2 then wholeX W S X else b2) = min b2 (wholeX W S X) := by split <;> omega
  have m3 : (if wholeX H S Y < b3 then wholeX H S Y else b3) = min b3 (wholeX H S Y) := by split <;> omega
  rw [underL_yes h1 h2]
  by_cases hi : insideG W H S X Y b0 b1 b2 b3
  rotate_left
  · rw [passed_none fun k hk => meets_out h1 h2 hi (by omega) (by omega)]
    refine under_out W H S X Y b0 b1 b2 b3 _ _ _ _ w a hg h1 h2 m0 m1 m2 m3 ?_
    rw [Bool.eq_false_iff]
    intro hh
    obtain ⟨k1, k2⟩ := Bool.and_eq_true_iff.1 hh
    rw [insideP_iff] at k1 k2
    rw [wx, wy] at k2
    apply hi
    unfold insideG
    omega
  have i1 : insideP W H S X Y (max b0 X) (max b1 Y) = true := insideP_iff.2 (by unfold insideG at hi; refine ⟨h1, ?_, ?_, ?_, ?_⟩ <;> omega)
  have i2 : insideP W H S X Y (min b2 (wholeX W S X)) (min b3 (wholeX H S Y)) = true := insideP_iff.2 (by rw [wx, wy]; unfold insideG at hi; refine ⟨h1, ?_, ?_, ?_, ?_⟩ <;> omega)
  obtain ⟨⟨g0, g1, g2⟩, g3, g4, g5⟩ := corner_facts h1 h2 hi
  obtain ⟨_, _, a1, a2⟩ := at_range i1
  obtain ⟨_, _, a3, a4⟩ := at_range i2
  obtain ⟨Wn, rfl⟩ : ∃ n : Nat, W = n := ⟨W.toNat, by omega⟩
  obtain ⟨c0, hc0⟩ : ∃ n : Nat, colA S X b0 = n := ⟨(colA S X b0).toNat, by omega⟩
  obtain ⟨c1, hc1⟩ : ∃ n : Nat, colB Wn S X b2 = n := ⟨(colB Wn S X b2).toNat, by omega⟩
  obtain ⟨r0, hr0⟩ : ∃ n : Nat, colA S Y b1 = n := ⟨(colA S Y b1).toNat, by omega⟩
  obtain ⟨r1, hr1⟩ : ∃ n : Nat, colB H S Y b3 = n := ⟨(colB H S Y b3).toNat, by omega⟩
  rw [hc0, hc1] at g1
  rw [hc1] at g2
  rw [hr0, hr1] at g4
  rw [hr1] at g5
  have hf : ∀ r c : Nat, (r : Int) < H → c < Wn → (fun t : Nat => meetsT Wn S X Y b0 b1 b2 b3 t) (r * Wn + c) = (decide (r0 ≤ r) && decide (r ≤ r1) && decide (c0 ≤ c) && decide (c ≤ c1)) := by
    intro r c hr hc
    have := meets_cell (r := r) (c := c) h1 h2 hi (by omega) hr (by omega) (by omega)
    rw [hr0, hr1, hc0, hc1] at this
    show meetsT Wn S X Y b0 b1 b2 b3 ((r * Wn + c : Nat) : Int) = _
    rw [show ((r * Wn + c : Nat) : Int) = (r : Int) * (Wn : Int) + c by push_cast; rfl, this]
    simp only [Int.ofNat_le]
  have key := under_core Wn r0 c0 r1 c1 H S X Y b0 b1 b2 b3 _ _ _ _ w a hg h1 h2 m0 m1 m2 m3 i1 i2
    (by unfold atV; rw [if_pos i1, a2]; exact hr0) (by unfold atV; rw [if_pos i1, a1]; exact hc0) (by unfold atV; rw [if_pos i2, a4, wy]; exact hr1) (by unfold atV; rw [if_pos i2, a3, wx]; exact hc1)
    (by omega) (by omega) (by omega) (by omega) (by omega) (fun t : Nat => meetsT Wn S X Y b0 b1 b2 b3 t) hf g5
  have hN : ((r1 + 1) * Wn) ≤ ((Wn : Int) * H).toNat := by
    have := Int.mul_le_mul_of_nonneg_right (show (r1 : Int) + 1 ≤ H by omega) (show (0 : Int) ≤ Wn by omega)
    rw [Int.mul_comm H] at this
    have e : (((r1 + 1) * Wn : Nat) : Int) = ((r1 : Int) + 1) * Wn := by push_cast; rfl
    omega
  rw [passed_skip hN]
  · exact key
  · intro k hk0 hk1
    have hk : k < Wn * H.toNat := by
      have : ((Wn * H.toNat : Nat) : Int) = (Wn : Int) * H := by push_cast; rw [Int.toNat_of_nonneg (by omega)]
      omega
    have hq : k / Wn < H.toNat := Nat.div_lt_of_lt_mul hk
    have hq1 : r1 + 1 ≤ k / Wn := (Nat.le_div_iff_mul_le (by omega)).2 hk0
    have := hf (k / Wn) (k % Wn) (by omega) (Nat.mod_lt _ (by omega))
    rw [show k / Wn * Wn + k % Wn = k by rw [Nat.mul_comm]; exact Nat.div_add_mod k Wn] at this
    refine this.trans ?_
    rw [show decide (k / Wn ≤ r1) = false by simp; omega]
    simp
theorem runder_any (W H S X Y b0 b1 b2 b3 : Int) (w : World) :
    Calls Tryd.prog 16 #[.agg #[.int .i64 W, .int .i64 H, .int .i64 S, .int .i64 X, .int .i64 Y], .agg #[.int .i64 b0, .int .i64 b1, .int .i64 b2, .int .i64 b3]] w fun e w' => (∃ v, e = .returned v ∧ IntsAt w' v (underL W H S X Y b0 b1 b2 b3)) ∧ Grew w w' :=
  (runder_new W H S X Y b0 b1 b2 b3 w).mono fun e w' ⟨⟨v, he, hv⟩, hg⟩ => ⟨⟨v, he, hv.ints⟩, hg⟩
theorem under_any (W H S X Y b0 b1 b2 b3 : Int) (w : World) (a : Addr) (hg : w.cell? ⟨1, 0, none⟩ = some (.iface 130 (.pointer (some a)))) :
    Calls Tryd.prog 15 #[.agg #[.int .i64 W, .int .i64 H, .int .i64 S, .int .i64 X, .int .i64 Y], .agg #[.int .i64 b0, .int .i64 b1, .int .i64 b2, .int .i64 b3]] w fun e w' => (∃ v, e = .returned v ∧ IntsAt w' v (underL W H S X Y b0 b1 b2 b3)) ∧ Grew w w' :=
  (under_new W H S X Y b0 b1 b2 b3 w a hg).mono fun e w' ⟨⟨v, he, hv⟩, hg⟩ => ⟨⟨v, he, hv.ints⟩, hg⟩
end Go.Proofs.YtbgbfljbjpbinaaDoor

/- The walk of tiles.Under where grid and box are right and the box meets the grid: its loops. The sentinels' cells are hypotheses. -/
import Derived.Test.YtbgbfljbjpbinaaDoorAt
import Derived.Test.YtbgbfljbjpbinaaDoorTiles7
import Derived.Deep.LoopGhost
namespace Go.Proofs.YtbgbfljbjpbinaaDoor
set_option linter.unusedSimpArgs false
set_option linter.unusedVariables false
open Go.RowKit

theorem row_skip {f : Nat → Bool} {W r i j : Nat} (hij : i ≤ j) (h : ∀ c, i ≤ c → c < j → f (r * W + c) = false) : passed f (r * W + j) = passed f (r * W + i) :=
  passed_skip (by omega) fun k h1 h2 => by have := h (k - r * W) (by omega) (by omega); rwa [show r * W + (k - r * W) = k by omega] at this

set_option maxRecDepth 100000 in
set_option maxHeartbeats 8000000 in
theorem under_core (W r0 c0 r1 c1 : Nat) (H S X Y b0 b1 b2 b3 p0 q0 p1 q1 : Int) (w : World) (a : Addr) (hg : w.cell? ⟨1, 0, none⟩ = some (.iface 130 (.pointer (some a)))) (h : gridB W H S X Y = true) (h' : rightB b0 b1 b2 b3 = true) (m0 : (if b0 < X then X else b0) = p0) (m1 : (if b1 < Y then Y else b1) = q0) (m2 : (if wholeX W S X < b2 then wholeX W S X else b2) = p1) (m3 : (if wholeX H S Y < b3 then wholeX H S Y else b3) = q1)
    (i1 : insideP W H S X Y p0 q0 = true) (i2 : insideP W H S X Y p1 q1 = true)
    (t0 : (atV W H S X Y p0 q0).tdiv W = r0) (t1 : (atV W H S X Y p0 q0).tmod W = c0) (t2 : (atV W H S X Y p1 q1).tdiv W = r1) (t3 : (atV W H S X Y p1 q1).tmod W = c1)
    (l0 : r0 ≤ r1) (l1 : r1 ≤ 31) (l2 : c0 ≤ c1) (l3 : c1 < W) (l4 : W ≤ 32) (f : Nat → Bool) (hf : ∀ r c : Nat, (r : Int) < H → c < W → f (r * W + c) = (decide (r0 ≤ r) && decide (r ≤ r1) && decide (c0 ≤ c) && decide (c ≤ c1))) (l5 : (r1 : Int) < H) :
    Calls Tryd.prog 15 #[.agg #[.int .i64 W, .int .i64 H, .int .i64 S, .int .i64 X, .int .i64 Y], .agg #[.int .i64 b0, .int .i64 b1, .int .i64 b2, .int .i64 b3]] w fun e w' => (∃ v, e = .returned v ∧ NewInts w' v (passed f ((r1 + 1) * W)) w.heap.size) ∧ Grew w w' := by
  obtain ⟨v0, hv0⟩ : ∃ v, v = atV W H S X Y p0 q0 := ⟨_, rfl⟩
  obtain ⟨v1, hv1⟩ : ∃ v, v = atV W H S X Y p1 q1 := ⟨_, rfl⟩
  rw [← hv0] at t0 t1
  rw [← hv1] at t2 t3
  have HA : Hid (∀ w1, Grew w w1 → Calls Tryd.prog 19 #[.agg #[.int .i64 W, .int .i64 H, .int .i64 S, .int .i64 X, .int .i64 Y], .agg #[.int .i64 p0, .int .i64 q0]] w1 fun e w' => e = .returned (.tuple #[.int .i64 v0, .bool true]) ∧ Grew w1 w') := fun w1 g => by
    have := at_any W H S X Y p0 q0 w1 a ((g.facts.1 _ _ (lt_of_cell hg)).trans hg)
    rw [← hv0, i1] at this
    exact this
  have HB : Hid (∀ w1, Grew w w1 → Calls Tryd.prog 19 #[.agg #[.int .i64 W, .int .i64 H, .int .i64 S, .int .i64 X, .int .i64 Y], .agg #[.int .i64 p1, .int .i64 q1]] w1 fun e w' => e = .returned (.tuple #[.int .i64 v1, .bool true]) ∧ Grew w1 w') := fun w1 g => by
    have := at_any W H S X Y p1 q1 w1 a ((g.facts.1 _ _ (lt_of_cell hg)).trans hg)
    rw [← hv1, i2] at this
    exact this
  have HF : Hid (∀ r c : Nat, (r : Int) < H → c < W → f (r * W + c) = (decide (r0 ≤ r) && decide (r ≤ r1) && decide (c0 ≤ c) && decide (c ≤ c1))) := hf
  have HL : Hid (r0 ≤ r1 ∧ r1 ≤ 31 ∧ c0 ≤ c1 ∧ c1 < W ∧ W ≤ 32 ∧ (r1 : Int) < H) := ⟨l0, l1, l2, l3, l4, l5⟩
  have hW0 : ((W : Int) == 0) = false := by rw [beq_eq_false_iff_ne]; omega
  have hW1 : (W : Int) ≠ 0 := by omega
  clear hv0 hv1 i1 i2 hf l5
  obtain ⟨i0, hi0, hi1, hi2, hi3⟩ := info_parts infoInt
  go_enter Tryd.func15, Tryd.ntmps15
  go_wp2_with (first | (go_at_call 17; refine (tright_any _ _ _ _ _ _ a (((Grew.facts (W := w) (by repeat (first | exact Grew.refl _ | assumption | refine Grew.drew ?_ | refine Grew.alloc ?_ _ | refine Grew.setCell ?_ (by (try simp only [World.size_alloc, World.size_drew]); omega) _ | refine Grew.trans ?_ (by assumption)))).1 _ _ (lt_of_cell hg)).trans hg)).mono ?_; rintro e w' ⟨rfl, hb⟩; obtain ⟨hc, hf⟩ := hb.facts; have hz := hb.size; (try simp only [World.size_alloc, World.size_drew] at hz); (try (have hcq := fun o => hc (w.heap.size) o (by (try simp only [World.size_alloc, World.size_drew]); omega))); (try (have hcq := fun o => hc (w.heap.size + 1) o (by (try simp only [World.size_alloc, World.size_drew]); omega))); (try (have hq : w.heap.size < w'.heap.size := by omega)); (try (have hq : w.heap.size + 1 < w'.heap.size := by omega))) | (go_at_call 53; refine (right_any _ _ _ _ _).mono ?_; rintro e w' ⟨rfl, hb⟩; obtain ⟨hc, hf⟩ := hb.facts; have hz := hb.size; (try simp only [World.size_alloc, World.size_drew] at hz); (try (have hcq := fun o => hc (w.heap.size) o (by (try simp only [World.size_alloc, World.size_drew]); omega))); (try (have hcq := fun o => hc (w.heap.size + 1) o (by (try simp only [World.size_alloc, World.size_drew]); omega))); (try (have hq : w.heap.size < w'.heap.size := by omega)); (try (have hq : w.heap.size + 1 < w'.heap.size := by omega))) | (go_at_call 54; refine (whole_any _ _ _ _ _ _).mono ?_; rintro e w1 ⟨rfl, hb⟩; obtain ⟨hc, hf⟩ := hb.facts; have hz := hb.size; (try simp only [World.size_alloc, World.size_drew] at hz); (try (have hcq := fun o => hc (w.heap.size) o (by (try simp only [World.size_alloc, World.size_drew]); omega))); (try (have hcq := fun o => hc (w.heap.size + 1) o (by (try simp only [World.size_alloc, World.size_drew]); omega))); (try (have hq : w.heap.size < w1.heap.size := by omega)); (try (have hq : w.heap.size + 1 < w1.heap.size := by omega))))
  (go_at_call 19; refine (HA.out _ (by repeat (first | exact Grew.refl _ | assumption | refine Grew.drew ?_ | refine Grew.alloc ?_ _ | refine Grew.setCell ?_ (by (try simp only [World.size_alloc, World.size_drew]); omega) _ | refine Grew.trans ?_ (by assumption)))).mono ?_; rintro e w2 ⟨rfl, hb⟩; obtain ⟨hc, hf⟩ := hb.facts; have hz := hb.size; (try simp only [World.size_alloc, World.size_drew] at hz); (try (have hcq := fun o => hc (w.heap.size) o (by (try simp only [World.size_alloc, World.size_drew]); omega))); (try (have hcq := fun o => hc (w.heap.size + 1) o (by (try simp only [World.size_alloc, World.size_drew]); omega))); (try (have hcq := fun o => hc (w1.heap.size) o (by (try simp only [World.size_alloc, World.size_drew]); omega))); (try (have hq : w.heap.size < w2.heap.size := by omega)); (try (have hq : w.heap.size + 1 < w2.heap.size := by omega)); (try (have hq : w1.heap.size < w2.heap.size := by omega)))
  go_wp2_with fail
  (go_at_call 19; refine (HB.out _ (by repeat (first | exact Grew.refl _ | assumption | refine Grew.drew ?_ | refine Grew.alloc ?_ _ | refine Grew.setCell ?_ (by (try simp only [World.size_alloc, World.size_drew]); omega) _ | refine Grew.trans ?_ (by assumption)))).mono ?_; rintro e w3 ⟨rfl, hb⟩; obtain ⟨hc, hf⟩ := hb.facts; have hz := hb.size; (try simp only [World.size_alloc, World.size_drew] at hz); (try (have hcq := fun o => hc (w.heap.size) o (by (try simp only [World.size_alloc, World.size_drew]); omega))); (try (have hcq := fun o => hc (w.heap.size + 1) o (by (try simp only [World.size_alloc, World.size_drew]); omega))); (try (have hcq := fun o => hc (w1.heap.size) o (by (try simp only [World.size_alloc, World.size_drew]); omega))); (try (have hq : w.heap.size < w3.heap.size := by omega)); (try (have hq : w.heap.size + 1 < w3.heap.size := by omega)); (try (have hq : w1.heap.size < w3.heap.size := by omega)))
  go_wp2_with fail
  have hGw : Grew w w3 := (by repeat (first | exact Grew.refl _ | assumption | refine Grew.drew ?_ | refine Grew.alloc ?_ _ | refine Grew.setCell ?_ (by (try simp only [World.size_alloc, World.size_drew]); omega) _ | refine Grew.trans ?_ (by assumption)))
  have hzA := hGw.size
  go_loopw [10, 11] (fun v i wr => ∃ r : Nat, r0 ≤ r ∧ r ≤ r1 + 1 ∧ i = .int .i64 r ∧ Own wr w3.heap.size v (passed f (r * W)) ∧ wr.cell? ⟨w.heap.size, 0, none⟩ = some (.int .i64 W) ∧ Grew w3 wr) (fun v i wr => r1 + 1 - (intOf i).toNat)
  case atStart =>
    refine ⟨r0, Nat.le_refl _, by omega, by simp [go_sem, *], ?_, by simp [go_sem, *], (by repeat (first | exact Grew.refl _ | assumption | refine Grew.drew ?_ | refine Grew.alloc ?_ _ | refine Grew.setCell ?_ (by (try simp only [World.size_alloc, World.size_drew]); omega) _ | refine Grew.trans ?_ (by assumption)))⟩
    have : passed f (r0 * W) = [] := by
      refine (passed_skip (f := f) (i := 0) (Nat.zero_le _) fun k _ hk => ?_).trans rfl
      obtain ⟨L0, L1, L2, L3, L4, L5⟩ := HL.out
      have hr : k / W < r0 := (Nat.div_lt_iff_lt_mul (by omega)).2 hk
      have := HF.out (k / W) (k % W) (by omega) (Nat.mod_lt _ (by omega))
      rw [Nat.mul_comm, Nat.div_add_mod] at this
      rw [this]
      have : decide (r0 ≤ k / W) = false := by simpa using hr
      rw [this]; rfl
    rw [this]
    exact Own.nil _ _
  case round =>
    obtain ⟨r, hr0, hr1, rfl, hO, a0, hG⟩ := hrel
    have hzr : w.heap.size < wr.heap.size := World.block_lt_of_cell? _ _ a0
    have HO : Hid (Own wr w3.heap.size _ (passed f (r * W))) := hO
    clear hO
    by_cases hlt : r ≤ r1
    · obtain ⟨wo, rfl⟩ : ∃ wo : World, wo = wr := ⟨_, rfl⟩
      have hr31 : r ≤ 31 := by omega
      obtain ⟨m, hm⟩ : ∃ m : Nat, m = r * W := ⟨_, rfl⟩
      have hmi : (r : Int) * (W : Int) = (m : Int) := by rw [hm]; push_cast; rfl
      have hml : m ≤ 992 := by rw [hm]; exact Nat.mul_le_mul hr31 (show W ≤ 32 by omega)
      have HM : Hid (m = r * W) := hm
      rw [← hm] at HO
      clear hm
      go_wp2_with fail
      go_loopw [10, 12] (fun v i wr => ∃ c : Nat, c0 ≤ c ∧ c ≤ c1 + 1 ∧ i = .int .i64 c ∧ Own wr w3.heap.size v (passed f (m + c)) ∧ wr.cell? ⟨w.heap.size, 0, none⟩ = some (.int .i64 W) ∧ Grew w3 wr) (fun v i wr => c1 + 1 - (intOf i).toNat)
      case atStart =>
        refine ⟨c0, Nat.le_refl _, by omega, by simp [go_sem, *], ?_, by simp [go_sem, *], (by repeat (first | exact Grew.refl _ | assumption | refine Grew.drew ?_ | refine Grew.alloc ?_ _ | refine Grew.setCell ?_ (by (try simp only [World.size_alloc, World.size_drew]); omega) _ | refine Grew.trans ?_ (by assumption)))⟩
        obtain ⟨L0, L1, L2, L3, L4, L5⟩ := HL.out
        have e : passed f (m + c0) = passed f m := by
          rw [HM.out, row_skip (i := 0) (Nat.zero_le c0) fun c _ hc => by
            rw [HF.out r c (by omega) (by omega), show decide (c0 ≤ c) = false by simp; omega]; simp]
          rfl
        rw [e]
        exact HO.out.grew (by repeat (first | exact Grew.refl _ | assumption | refine Grew.drew ?_ | refine Grew.alloc ?_ _ | refine Grew.setCell ?_ (by (try simp only [World.size_alloc, World.size_drew]); omega) _ | refine Grew.trans ?_ (by assumption)))
      case round =>
        obtain ⟨c, hc0, hc1, rfl, hO2, a1, hG2⟩ := hrel
        have hzq : w.heap.size < wr.heap.size := World.block_lt_of_cell? _ _ a1
        have HO2 : Hid (Own wr w3.heap.size _ (passed f (m + c))) := hO2
        clear hO2
        have hzz := hG2.size
        by_cases hlt2 : c ≤ c1
        · go_wp2_with (at_builtin; refine wpList_append_own _ rfl _ _ 28 rfl w3.heap.size 3 i0 (.int .i64 0) 1 8 Tryd.underlying28 hi0 hi1 hi2 hi3 rfl (by decide) _ _ _ rfl (HO2.out.raw.alloc _) ⟨_, 0, none⟩ 1 1 [.int .i64 ((m : Int) + c)] rfl rfl ?c1 ?c2 ?c3 ?c4 ?c5 ?_)
          case c1 =>
            intro j u hj
            match j, hj with
            | 0, hj => simp at hj; subst hj; simp [Addr.add]
          case c2 => intro u hu; simp at hu; subst hu; rfl
          case c3 => have := passed_le f (m + c); unfold maxLen; omega
          case c4 => have := passed_le f (m + c); omega
          case c5 => simp; omega
          · intro v' w4 hown' hgrow _
            obtain ⟨hO1, hG1, hB1⟩ := HO2.out.next (a := w3) hown' hgrow (Grew.refl _) hG2 (Nat.le_refl _) hzz
            have hfc : f (m + c) = true := by
              obtain ⟨L0, L1, L2, L3, L4, L5⟩ := HL.out
              rw [HM.out, HF.out r c (by omega) (by omega)]; simp; omega
            rw [show (m : Int) + c = ((m + c : Nat) : Int) by push_cast; rfl, ← passed_hit hfc] at hO1
            replace a1 := (hB1.cell (p := ⟨w.heap.size, 0, none⟩) (by simp; omega)).trans a1
            clear hown' hgrow
            go_wp2
            go_roundw
            case rel => exact ⟨c + 1, by omega, by omega, by go_num, hO1, a1, hG1⟩
            case measure => simp [intOf]; omega
        · go_wp2_with fail
          go_roundw
          case rel =>
            refine ⟨r + 1, by omega, by omega, by go_num, ?_, a1, (by repeat (first | exact Grew.refl _ | assumption | refine Grew.drew ?_ | refine Grew.alloc ?_ _ | refine Grew.setCell ?_ (by (try simp only [World.size_alloc, World.size_drew]); omega) _ | refine Grew.trans ?_ (by assumption)))⟩
            obtain ⟨L0, L1, L2, L3, L4, L5⟩ := HL.out
            have e : passed f ((r + 1) * W) = passed f (m + c) := by
              rw [HM.out, Nat.add_mul, Nat.one_mul]
              refine row_skip (by omega) fun x hx0 hx1 => ?_
              rw [HF.out r x (by omega) hx1, show decide (x ≤ c1) = false by simp; omega]; simp
            rw [e]
            exact HO2.out.grew (by repeat (first | exact Grew.refl _ | assumption | refine Grew.drew ?_ | refine Grew.alloc ?_ _ | refine Grew.setCell ?_ (by (try simp only [World.size_alloc, World.size_drew]); omega) _ | refine Grew.trans ?_ (by assumption)))
          case measure => simp [intOf]; omega
    · obtain rfl : r = r1 + 1 := by omega
      go_wp2_with fail
      go_ret
      exact ⟨⟨_, rfl, (HO.out.newInts hzA).grew (by repeat (first | exact Grew.refl _ | assumption | refine Grew.drew ?_ | refine Grew.alloc ?_ _ | refine Grew.setCell ?_ (by (try simp only [World.size_alloc, World.size_drew]); omega) _ | refine Grew.trans ?_ (by assumption)))⟩, (by repeat (first | exact Grew.refl _ | assumption | refine Grew.drew ?_ | refine Grew.alloc ?_ _ | refine Grew.setCell ?_ (by (try simp only [World.size_alloc, World.size_drew]); omega) _ | refine Grew.trans ?_ (by assumption)))⟩
end Go.Proofs.YtbgbfljbjpbinaaDoor

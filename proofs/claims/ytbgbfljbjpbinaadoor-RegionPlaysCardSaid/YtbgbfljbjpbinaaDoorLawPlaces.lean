/- The walk of the law TilesPlaces: it answers true. Condition: the sentinel's cell. -/
import Derived.Test.YtbgbfljbjpbinaaDoorAlive14
import Derived.Test.YtbgbfljbjpbinaaDoorPlace
import Derived.Deep.LoopGhost
namespace Go.Proofs.YtbgbfljbjpbinaaDoor
set_option linter.unusedSimpArgs false
set_option linter.unusedVariables false
open Go.RowKit

theorem tile_meets {W H S X Y k t : Int} (h : gridB W H S X Y = true) (k0 : 0 ≤ k) (k1 : k < W * H) (t0 : 0 ≤ t) (t1 : t < W * H) :
    meetsT W S X Y (tileX W S X t) (tileY W S Y t) (tileX W S X t + S - 1) (tileY W S Y t + S - 1) k = decide (k = t) := by
  obtain ⟨_, ⟨f5, f6, f7, f8, f9, f10⟩, _, _, _⟩ := grid_facts h
  obtain ⟨ek, _⟩ := tile_back k0 f5 k1
  obtain ⟨et, _⟩ := tile_back t0 f5 t1
  rw [Bool.eq_iff_iff]
  simp only [meetsT, rmeetsB, Bool.not_eq_true', Bool.or_eq_false_iff, decide_eq_false_iff_not, decide_eq_true_eq]
  constructor
  · rintro ⟨⟨⟨u1, u2⟩, u3⟩, u4⟩
    unfold tileX at u1 u2
    unfold tileY at u3 u4
    have e1 : k.tmod W = t.tmod W := Int.le_antisymm (cell_lt f9 (by omega)) (cell_lt f9 (by omega))
    have e2 : k.tdiv W = t.tdiv W := Int.le_antisymm (cell_lt f9 (by omega)) (cell_lt f9 (by omega))
    rw [e1, e2] at ek
    rw [ek]; exact et.symm
  · rintro rfl
    refine ⟨⟨⟨?_, ?_⟩, ?_⟩, ?_⟩ <;> omega
theorem passed_one {N t : Nat} (h : t < N) : passed (fun k => decide (k = t)) N = [(t : Int)] := by
  rw [passed_skip (i := t + 1) (by omega) (fun k h1 _ => by simp; omega), passed_hit (by simp), passed_none (fun k hk => by simp; omega)]
  rfl
theorem tile_right {W H S X Y t : Int} (h : gridB W H S X Y = true) (t0 : 0 ≤ t) (t1 : t < W * H) : rightB (tileX W S X t) (tileY W S Y t) (tileX W S X t + S - 1) (tileY W S Y t + S - 1) = true := by
  obtain ⟨⟨f1, f2, f3, f4⟩, ⟨f5, f6, f7, f8, f9, f10⟩, fW, fH, _⟩ := grid_facts h
  obtain ⟨b0, b1, b2, b3⟩ := tile_bounds h t0 t1
  simp only [rightB, reachB, withinB, Bool.and_eq_true, decide_eq_true_eq]
  omega
theorem tile_under {W H S X Y : Int} {t : Nat} (h : gridB W H S X Y = true) (t1 : (t : Int) < W * H) : underL W H S X Y (tileX W S X t) (tileY W S Y t) (tileX W S X t + S - 1) (tileY W S Y t + S - 1) = [(t : Int)] := by
  rw [underL_yes h (tile_right h (by omega) t1), passed_congr (g := fun k => decide (k = t)) (fun k hk => ?_), passed_one (by omega)]
  refine (tile_meets h (by omega) (by omega) (by omega) t1).trans ?_
  rw [Bool.eq_iff_iff]; simp only [decide_eq_true_eq]; omega
theorem tile_at {W H S X Y t dx dy : Int} (h : gridB W H S X Y = true) (t0 : 0 ≤ t) (t1 : t < W * H) (x0 : 0 ≤ dx) (x1 : dx < S) (y0 : 0 ≤ dy) (y1 : dy < S) : atV W H S X Y (tileX W S X t + dx) (tileY W S Y t + dy) = t ∧ insideP W H S X Y (tileX W S X t + dx) (tileY W S Y t + dy) = true := by
  have := has_eq (p := tileX W S X t + dx) (q := tileY W S Y t + dy) h t0 t1
  have hh : hasT W S X Y (tileX W S X t + dx) (tileY W S Y t + dy) t = true := by
    simp only [hasT, rhasB, Bool.and_eq_true, decide_eq_true_eq]; omega
  rw [hh] at this
  obtain ⟨i1, i2⟩ := Bool.and_eq_true_iff.1 this.symm
  refine ⟨?_, i1⟩
  unfold atV
  rw [if_pos i1]
  exact (of_decide_eq_true i2).symm
theorem tile_before {W H S X Y t : Int} (h : gridB W H S X Y = true) (t0 : 0 ≤ t) (t1 : t < W * H) : atV W H S X Y (tileX W S X t - 1) (tileY W S Y t) ≠ t := by
  intro he
  unfold atV at he
  split at he
  · rename_i hi
    have := has_eq (p := tileX W S X t - 1) (q := tileY W S Y t) h t0 t1
    rw [hi, he] at this
    simp only [hasT, rhasB, decide_true, Bool.and_true, Bool.and_eq_true, decide_eq_true_eq] at this
    omega
  · omega

/-- What a round calls. -/
theorem places_round {W H S X Y : Int} {k : Nat} (h : gridB W H S X Y = true) (h1 : (k : Int) < W * H) : ∃ px py v : Int, ∃ β : Bool, (-1048576 ≤ px ∧ px ≤ 3145728 ∧ -1048576 ≤ py ∧ py ≤ 3145728) ∧ v ≠ k ∧
    ∀ (w : World) (a : Addr), w.cell? ⟨1, 0, none⟩ = some (.iface 130 (.pointer (some a))) →
      (Calls Tryd.prog 18 #[.agg #[.int .i64 W, .int .i64 H, .int .i64 S, .int .i64 X, .int .i64 Y], .int .i64 k] w fun e w' => e = .returned (.tuple #[.agg #[.int .i64 px, .int .i64 py], .nilIface]) ∧ Grew w w') ∧
      (Calls Tryd.prog 19 #[.agg #[.int .i64 W, .int .i64 H, .int .i64 S, .int .i64 X, .int .i64 Y], .agg #[.int .i64 px, .int .i64 py]] w fun e w' => e = .returned (.tuple #[.int .i64 k, .bool true]) ∧ Grew w w') ∧
      (Calls Tryd.prog 19 #[.agg #[.int .i64 W, .int .i64 H, .int .i64 S, .int .i64 X, .int .i64 Y], .agg #[.int .i64 (px + S - 1), .int .i64 (py + S - 1)]] w fun e w' => e = .returned (.tuple #[.int .i64 k, .bool true]) ∧ Grew w w') ∧
      (Calls Tryd.prog 19 #[.agg #[.int .i64 W, .int .i64 H, .int .i64 S, .int .i64 X, .int .i64 Y], .agg #[.int .i64 (px - 1), .int .i64 py]] w fun e w' => e = .returned (.tuple #[.int .i64 v, .bool β]) ∧ Grew w w') ∧
      (Calls Tryd.prog 15 #[.agg #[.int .i64 W, .int .i64 H, .int .i64 S, .int .i64 X, .int .i64 Y], .agg #[.int .i64 px, .int .i64 py, .int .i64 (px + S - 1), .int .i64 (py + S - 1)]] w fun e w' => (∃ v, e = .returned v ∧ IntsAt w' v [(k : Int)]) ∧ Grew w w') := by
  obtain ⟨⟨f1, f2, f3, f4⟩, ⟨f5, f6, f7, f8, f9, f10⟩, fW, fH, _⟩ := grid_facts h
  obtain ⟨b0, b1, b2, b3⟩ := tile_bounds h (show 0 ≤ (k : Int) by omega) h1
  refine ⟨tileX W S X k, tileY W S Y k, atV W H S X Y (tileX W S X k - 1) (tileY W S Y k), insideP W H S X Y (tileX W S X k - 1) (tileY W S Y k), by omega, tile_before h (by omega) h1, fun w a hg => ⟨?_, ?_, ?_, ?_, ?_⟩⟩
  · exact place_ok _ _ _ _ _ _ w a hg h (by omega) h1
  · have := at_any W H S X Y (tileX W S X k) (tileY W S Y k) w a hg
    obtain ⟨e1, e2⟩ := tile_at (dx := 0) (dy := 0) h (show 0 ≤ (k : Int) by omega) h1 (by omega) (by omega) (by omega) (by omega)
    rw [Int.add_zero, Int.add_zero] at e1 e2
    rwa [e1, e2] at this
  · have := at_any W H S X Y (tileX W S X k + S - 1) (tileY W S Y k + S - 1) w a hg
    obtain ⟨e1, e2⟩ := tile_at (dx := S - 1) (dy := S - 1) h (show 0 ≤ (k : Int) by omega) h1 (by omega) (by omega) (by omega) (by omega)
    rw [← Int.add_sub_assoc, ← Int.add_sub_assoc] at e1 e2
    rwa [e1, e2] at this
  · exact at_any _ _ _ _ _ _ _ w a hg
  · have := under_any W H S X Y (tileX W S X k) (tileY W S Y k) (tileX W S X k + S - 1) (tileY W S Y k + S - 1) w a hg
    rwa [tile_under h h1] at this

set_option maxRecDepth 100000 in
set_option maxHeartbeats 8000000 in
theorem tilesPlaces_any (W H S X Y : Int) (w : World) (a : Addr) (hg : w.cell? ⟨1, 0, none⟩ = some (.iface 130 (.pointer (some a)))) :
    Calls Tryd.prog 4 #[.agg #[.int .i64 W, .int .i64 H, .int .i64 S, .int .i64 X, .int .i64 Y]] w fun e w' => e = .returned (.bool true) ∧ Grew w w' := by
  cases hgr : gridB W H S X Y
  · go_enter Tryd.func4, Tryd.ntmps4
    go_wp2_with (first | (go_at_call 13; refine (alive14_any _ a (((Grew.facts (W := w) (by repeat (first | exact Grew.refl _ | assumption | refine Grew.drew ?_ | refine Grew.alloc ?_ _ | refine Grew.setCell ?_ (by (try simp only [World.size_alloc, World.size_drew]); omega) _ | refine Grew.trans ?_ (by assumption)))).1 _ _ (lt_of_cell hg)).trans hg)).mono ?_; rintro e w1 ⟨rfl, hb⟩; obtain ⟨hc, hf⟩ := hb.facts; have hz := hb.size; (try simp only [World.size_alloc, World.size_drew] at hz); (try (have hcq := fun o => hc (w.heap.size) o (by (try simp only [World.size_alloc, World.size_drew]); omega))); (try (have hq : w.heap.size < w1.heap.size := by omega))) | (go_at_call 17; refine (tright_any _ _ _ _ _ _ a (((Grew.facts (W := w) (by repeat (first | exact Grew.refl _ | assumption | refine Grew.drew ?_ | refine Grew.alloc ?_ _ | refine Grew.setCell ?_ (by (try simp only [World.size_alloc, World.size_drew]); omega) _ | refine Grew.trans ?_ (by assumption)))).1 _ _ (lt_of_cell hg)).trans hg)).mono ?_; rintro e w2 ⟨rfl, hb⟩; obtain ⟨hc, hf⟩ := hb.facts; have hz := hb.size; (try simp only [World.size_alloc, World.size_drew] at hz); (try (have hcq := fun o => hc (w.heap.size) o (by (try simp only [World.size_alloc, World.size_drew]); omega))); (try (have hq : w.heap.size < w2.heap.size := by omega))))
    go_ret
    exact ⟨rfl, (by repeat (first | exact Grew.refl _ | assumption | refine Grew.drew ?_ | refine Grew.alloc ?_ _ | refine Grew.setCell ?_ (by (try simp only [World.size_alloc, World.size_drew]); omega) _ | refine Grew.trans ?_ (by assumption)))⟩
  obtain ⟨_, ⟨g1, g2, g3, g4, g5, g6⟩, _, _, fA⟩ := grid_facts hgr
  obtain ⟨N, hN⟩ : ∃ N : Nat, W * H = N := ⟨(W * H).toNat, by omega⟩
  have hN1 : N ≤ 1024 := by omega
  have HR : Hid (∀ k : Nat, k < N → _) := fun k hk => places_round (k := k) hgr (by omega)
  clear fA
  go_enter Tryd.func4, Tryd.ntmps4
  go_wp2_with (first | (go_at_call 13; refine (alive14_any _ a (((Grew.facts (W := w) (by repeat (first | exact Grew.refl _ | assumption | refine Grew.drew ?_ | refine Grew.alloc ?_ _ | refine Grew.setCell ?_ (by (try simp only [World.size_alloc, World.size_drew]); omega) _ | refine Grew.trans ?_ (by assumption)))).1 _ _ (lt_of_cell hg)).trans hg)).mono ?_; rintro e w1 ⟨rfl, hb⟩; obtain ⟨hc, hf⟩ := hb.facts; have hz := hb.size; (try simp only [World.size_alloc, World.size_drew] at hz); (try (have hcq := fun o => hc (w.heap.size) o (by (try simp only [World.size_alloc, World.size_drew]); omega))); (try (have hq : w.heap.size < w1.heap.size := by omega))) | (go_at_call 17; refine (tright_any _ _ _ _ _ _ a (((Grew.facts (W := w) (by repeat (first | exact Grew.refl _ | assumption | refine Grew.drew ?_ | refine Grew.alloc ?_ _ | refine Grew.setCell ?_ (by (try simp only [World.size_alloc, World.size_drew]); omega) _ | refine Grew.trans ?_ (by assumption)))).1 _ _ (lt_of_cell hg)).trans hg)).mono ?_; rintro e w2 ⟨rfl, hb⟩; obtain ⟨hc, hf⟩ := hb.facts; have hz := hb.size; (try simp only [World.size_alloc, World.size_drew] at hz); (try (have hcq := fun o => hc (w.heap.size) o (by (try simp only [World.size_alloc, World.size_drew]); omega))); (try (have hq : w.heap.size < w2.heap.size := by omega))))
  go_loopw [23] (fun i wr => ∃ k : Nat, k ≤ N ∧ i = .int .i64 k ∧ wr.cell? ⟨w.heap.size, 0, none⟩ = some (.int .i64 W) ∧ wr.cell? ⟨w.heap.size, 1, none⟩ = some (.int .i64 H) ∧ wr.cell? ⟨w.heap.size, 2, none⟩ = some (.int .i64 S) ∧ wr.cell? ⟨w.heap.size, 3, none⟩ = some (.int .i64 X) ∧ wr.cell? ⟨w.heap.size, 4, none⟩ = some (.int .i64 Y) ∧ Grew w wr) (fun i wr => N - (intOf i).toNat)
  case atStart => exact ⟨0, Nat.zero_le _, rfl, by simp [go_sem, *], by simp [go_sem, *], by simp [go_sem, *], by simp [go_sem, *], by simp [go_sem, *], (by repeat (first | exact Grew.refl _ | assumption | refine Grew.drew ?_ | refine Grew.alloc ?_ _ | refine Grew.setCell ?_ (by (try simp only [World.size_alloc, World.size_drew]); omega) _ | refine Grew.trans ?_ (by assumption)))⟩
  case round =>
    obtain ⟨k, hk, rfl, a0, a1, a2, a3, a4, hG⟩ := hrel
    have hz0 : w.heap.size < wr.heap.size := World.block_lt_of_cell? _ _ a0
    by_cases hlt : k < N
    · obtain ⟨px, py, v, β, ⟨p1, p2, p3, p4⟩, hv, hc⟩ := HR.out k hlt
      have hvk : (v == (k : Int)) = false := by rw [beq_eq_false_iff_ne]; exact hv
      have HC : Hid _ := hc
      clear hc hv
      go_wp2_with fail
      (go_at_call 18; refine ((HC.out _ a (((Grew.facts (W := w) (by repeat (first | exact Grew.refl _ | assumption | refine Grew.drew ?_ | refine Grew.alloc ?_ _ | refine Grew.setCell ?_ (by (try simp only [World.size_alloc, World.size_drew]); omega) _ | refine Grew.trans ?_ (by assumption)))).1 _ _ (lt_of_cell hg)).trans hg)).1).mono ?_; rintro e w3 ⟨rfl, hb⟩; obtain ⟨hc, hf⟩ := hb.facts; have hz := hb.size; (try simp only [World.size_alloc, World.size_drew] at hz); (try (have hcq := fun o => hc (w.heap.size) o (by (try simp only [World.size_alloc, World.size_drew]); omega))); (try (have hq : w.heap.size < w3.heap.size := by omega)))
      go_wp2_with fail
      (go_at_call 19; refine ((HC.out _ a (((Grew.facts (W := w) (by repeat (first | exact Grew.refl _ | assumption | refine Grew.drew ?_ | refine Grew.alloc ?_ _ | refine Grew.setCell ?_ (by (try simp only [World.size_alloc, World.size_drew]); omega) _ | refine Grew.trans ?_ (by assumption)))).1 _ _ (lt_of_cell hg)).trans hg)).2.1).mono ?_; rintro e w4 ⟨rfl, hb⟩; obtain ⟨hc, hf⟩ := hb.facts; have hz := hb.size; (try simp only [World.size_alloc, World.size_drew] at hz); (try (have hcq := fun o => hc (w.heap.size) o (by (try simp only [World.size_alloc, World.size_drew]); omega))); (try (have hcq := fun o => hc (w3.heap.size) o (by (try simp only [World.size_alloc, World.size_drew]); omega))); (try (have hq : w.heap.size < w4.heap.size := by omega)); (try (have hq : w3.heap.size < w4.heap.size := by omega)))
      go_wp2_with fail
      (go_at_call 19; refine ((HC.out _ a (((Grew.facts (W := w) (by repeat (first | exact Grew.refl _ | assumption | refine Grew.drew ?_ | refine Grew.alloc ?_ _ | refine Grew.setCell ?_ (by (try simp only [World.size_alloc, World.size_drew]); omega) _ | refine Grew.trans ?_ (by assumption)))).1 _ _ (lt_of_cell hg)).trans hg)).2.2.1).mono ?_; rintro e w5 ⟨rfl, hb⟩; obtain ⟨hc, hf⟩ := hb.facts; have hz := hb.size; (try simp only [World.size_alloc, World.size_drew] at hz); (try (have hcq := fun o => hc (w.heap.size) o (by (try simp only [World.size_alloc, World.size_drew]); omega))); (try (have hcq := fun o => hc (w3.heap.size) o (by (try simp only [World.size_alloc, World.size_drew]); omega))); (try (have hq : w.heap.size < w5.heap.size := by omega)); (try (have hq : w3.heap.size < w5.heap.size := by omega)))
      go_wp2_with fail
      (go_at_call 19; refine ((HC.out _ a (((Grew.facts (W := w) (by repeat (first | exact Grew.refl _ | assumption | refine Grew.drew ?_ | refine Grew.alloc ?_ _ | refine Grew.setCell ?_ (by (try simp only [World.size_alloc, World.size_drew]); omega) _ | refine Grew.trans ?_ (by assumption)))).1 _ _ (lt_of_cell hg)).trans hg)).2.2.2.1).mono ?_; rintro e w6 ⟨rfl, hb⟩; obtain ⟨hc, hf⟩ := hb.facts; have hz := hb.size; (try simp only [World.size_alloc, World.size_drew] at hz); (try (have hcq := fun o => hc (w.heap.size) o (by (try simp only [World.size_alloc, World.size_drew]); omega))); (try (have hcq := fun o => hc (w3.heap.size) o (by (try simp only [World.size_alloc, World.size_drew]); omega))); (try (have hq : w.heap.size < w6.heap.size := by omega)); (try (have hq : w3.heap.size < w6.heap.size := by omega)))
      go_wp2_with fail
      (go_at_call 15; refine ((HC.out _ a (((Grew.facts (W := w) (by repeat (first | exact Grew.refl _ | assumption | refine Grew.drew ?_ | refine Grew.alloc ?_ _ | refine Grew.setCell ?_ (by (try simp only [World.size_alloc, World.size_drew]); omega) _ | refine Grew.trans ?_ (by assumption)))).1 _ _ (lt_of_cell hg)).trans hg)).2.2.2.2).mono ?_; rintro e w7 ⟨⟨u, rfl, hu⟩, hb⟩; obtain ⟨hc, hf⟩ := hb.facts; have hz := hb.size; (try simp only [World.size_alloc, World.size_drew] at hz); (try (have hcq := fun o => hc (w.heap.size) o (by (try simp only [World.size_alloc, World.size_drew]); omega))); (try (have hcq := fun o => hc (w3.heap.size) o (by (try simp only [World.size_alloc, World.size_drew]); omega))); (try (have hq : w.heap.size < w7.heap.size := by omega)); (try (have hq : w3.heap.size < w7.heap.size := by omega)))
      obtain ⟨ao, cap, rfl, hu2⟩ := hu
      rcases hu2 with hu2 | ⟨bb, off, rfl, hbb, hu2⟩
      · cases hu2
      have hx0 : w7.cell? ⟨bb, off, none⟩ = some (.int .i64 k) := by simpa using hu2 0 k rfl
      clear hu2
      go_wp2_with fail
      go_roundw
      case rel => exact ⟨k + 1, by omega, by go_num, by simp [go_sem, *], by simp [go_sem, *], by simp [go_sem, *], by simp [go_sem, *], by simp [go_sem, *], (by repeat (first | exact Grew.refl _ | assumption | refine Grew.drew ?_ | refine Grew.alloc ?_ _ | refine Grew.setCell ?_ (by (try simp only [World.size_alloc, World.size_drew]); omega) _ | refine Grew.trans ?_ (by assumption)))⟩
      case measure => simp [intOf]; omega
    · go_wp2_with fail
      go_ret
      exact ⟨rfl, (by repeat (first | exact Grew.refl _ | assumption | refine Grew.drew ?_ | refine Grew.alloc ?_ _ | refine Grew.setCell ?_ (by (try simp only [World.size_alloc, World.size_drew]); omega) _ | refine Grew.trans ?_ (by assumption)))⟩
end Go.Proofs.YtbgbfljbjpbinaaDoor

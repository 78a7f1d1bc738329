/- The walks of Place and of the reference's Tile. The sentinels' cells are hypotheses. -/
import Derived.Test.YtbgbfljbjpbinaaDoorTiles2
namespace Go.Proofs.YtbgbfljbjpbinaaDoor
set_option linter.unusedSimpArgs false
set_option linter.unusedVariables false
open Go.RowKit

def tileX (W S X t : Int) : Int := X + t.tmod W * S
def tileY (W S Y t : Int) : Int := Y + t.tdiv W * S
theorem tile_bounds {W H S X Y t : Int} (h : gridB W H S X Y = true) (h0 : 0 ≤ t) (h1 : t < W * H) : X ≤ tileX W S X t ∧ tileX W S X t + S ≤ X + W * S ∧ Y ≤ tileY W S Y t ∧ tileY W S Y t + S ≤ Y + H * S := by
  obtain ⟨⟨f1, f2, f3, f4⟩, ⟨f5, f6, f7, f8, f9, f10⟩, fW, fH, fA⟩ := grid_facts h
  have r0 : 0 ≤ t.tmod W ∧ t.tmod W ≤ 31 ∧ t.tmod W ≤ W - 1 := by
    rw [Int.tmod_eq_emod_of_nonneg h0]
    have := Int.emod_nonneg t (show W ≠ 0 by omega)
    have := Int.emod_lt_of_pos t (show 0 < W by omega)
    omega
  have r1 : 0 ≤ t.tdiv W ∧ t.tdiv W ≤ 31 ∧ t.tdiv W ≤ H - 1 := by
    rw [Int.tdiv_eq_ediv_of_nonneg h0]
    have := Int.ediv_nonneg h0 (show 0 ≤ W by omega)
    have := Int.ediv_lt_of_lt_mul (show 0 < W by omega) (show t < H * W by rw [Int.mul_comm]; exact h1)
    omega
  obtain ⟨m0, m1⟩ := prod_facts r0.1 (show 0 ≤ S by omega) r0.2.1 f10
  obtain ⟨n0, n1⟩ := prod_facts r1.1 (show 0 ≤ S by omega) r1.2.1 f10
  have hW0 : (W == 0) = false := by rw [beq_eq_false_iff_ne]; omega
  have hW1 : W ≠ 0 := by omega
  have e1 : IntKind.i64.wrap (t.tmod W) = t.tmod W := IntWalk.i64_in _ (by omega)
  have e2 : IntKind.i64.wrap (t.tdiv W) = t.tdiv W := IntWalk.i64_in _ (by omega)
  have e3 : IntKind.i64.wrap (t.tmod W * S) = t.tmod W * S := IntWalk.i64_in _ (by omega)
  have e4 : IntKind.i64.wrap (t.tdiv W * S) = t.tdiv W * S := IntWalk.i64_in _ (by omega)
  have e5 : IntKind.i64.wrap (X + t.tmod W * S) = X + t.tmod W * S := IntWalk.i64_in _ (by omega)
  have e6 : IntKind.i64.wrap (Y + t.tdiv W * S) = Y + t.tdiv W * S := IntWalk.i64_in _ (by omega)
  have k0 := Int.mul_le_mul_of_nonneg_right r0.2.2 (show 0 ≤ S by omega)
  have k1 := Int.mul_le_mul_of_nonneg_right r1.2.2 (show 0 ≤ S by omega)
  rw [Int.sub_mul] at k0 k1
  unfold tileX tileY
  omega
set_option maxHeartbeats 4000000 in
theorem tile_any (W H S X Y t : Int) (w : World) (h : gridB W H S X Y = true) (h0 : 0 ≤ t) (h1 : t < W * H) :
    Calls Tryd.prog 28 #[.agg #[.int .i64 W, .int .i64 H, .int .i64 S, .int .i64 X, .int .i64 Y], .int .i64 t] w fun e w' => e = .returned (.agg #[.int .i64 (tileX W S X t), .int .i64 (tileY W S Y t), .int .i64 (tileX W S X t + S - 1), .int .i64 (tileY W S Y t + S - 1)]) ∧ Grew w w' := by
  obtain ⟨⟨f1, f2, f3, f4⟩, ⟨f5, f6, f7, f8, f9, f10⟩, fW, fH, fA⟩ := grid_facts h
  have r0 : 0 ≤ t.tmod W ∧ t.tmod W ≤ 31 ∧ t.tmod W ≤ W - 1 := by
    rw [Int.tmod_eq_emod_of_nonneg h0]
    have := Int.emod_nonneg t (show W ≠ 0 by omega)
    have := Int.emod_lt_of_pos t (show 0 < W by omega)
    omega
  have r1 : 0 ≤ t.tdiv W ∧ t.tdiv W ≤ 31 ∧ t.tdiv W ≤ H - 1 := by
    rw [Int.tdiv_eq_ediv_of_nonneg h0]
    have := Int.ediv_nonneg h0 (show 0 ≤ W by omega)
    have := Int.ediv_lt_of_lt_mul (show 0 < W by omega) (show t < H * W by rw [Int.mul_comm]; exact h1)
    omega
  obtain ⟨m0, m1⟩ := prod_facts r0.1 (show 0 ≤ S by omega) r0.2.1 f10
  obtain ⟨n0, n1⟩ := prod_facts r1.1 (show 0 ≤ S by omega) r1.2.1 f10
  have hW0 : (W == 0) = false := by rw [beq_eq_false_iff_ne]; omega
  have hW1 : W ≠ 0 := by omega
  have e1 : IntKind.i64.wrap (t.tmod W) = t.tmod W := IntWalk.i64_in _ (by omega)
  have e2 : IntKind.i64.wrap (t.tdiv W) = t.tdiv W := IntWalk.i64_in _ (by omega)
  have e3 : IntKind.i64.wrap (t.tmod W * S) = t.tmod W * S := IntWalk.i64_in _ (by omega)
  have e4 : IntKind.i64.wrap (t.tdiv W * S) = t.tdiv W * S := IntWalk.i64_in _ (by omega)
  have e5 : IntKind.i64.wrap (X + t.tmod W * S) = X + t.tmod W * S := IntWalk.i64_in _ (by omega)
  have e6 : IntKind.i64.wrap (Y + t.tdiv W * S) = Y + t.tdiv W * S := IntWalk.i64_in _ (by omega)
  have u1 : X + t.tmod W * S = tileX W S X t := rfl
  have u2 : Y + t.tdiv W * S = tileY W S Y t := rfl
  rw [u1] at e5
  rw [u2] at e6
  have b1 : -1048576 ≤ tileX W S X t ∧ tileX W S X t ≤ 4194304 := by rw [← u1]; omega
  have b2 : -1048576 ≤ tileY W S Y t ∧ tileY W S Y t ≤ 4194304 := by rw [← u2]; omega
  have e7 : IntKind.i64.wrap (tileX W S X t + S) = tileX W S X t + S := IntWalk.i64_in _ (by omega)
  have e8 : IntKind.i64.wrap (tileY W S Y t + S) = tileY W S Y t + S := IntWalk.i64_in _ (by omega)
  have e9 : IntKind.i64.wrap (tileX W S X t + S - 1) = tileX W S X t + S - 1 := IntWalk.i64_in _ (by omega)
  have e10 : IntKind.i64.wrap (tileY W S Y t + S - 1) = tileY W S Y t + S - 1 := IntWalk.i64_in _ (by omega)
  clear h0 h1 f1 f2 f3 f4 f5 f6 f7 f8 fW fH fA r0 r1 m0 m1 n0 n1
  go_enter Tryd.func28, Tryd.ntmps28
  go_wp2
  go_region
  go_wp2
  exact bodyPost_ret (v := .agg #[.int .i64 (tileX W S X t), .int .i64 (tileY W S Y t), .int .i64 (tileX W S X t + S - 1), .int .i64 (tileY W S Y t + S - 1)]) (by simp [results, Tryd.results28, go_sem, *]) rfl ⟨rfl, (by repeat (first | exact Grew.refl _ | assumption | refine Grew.drew ?_ | refine Grew.alloc ?_ _ | refine Grew.setCell ?_ (by (try simp only [World.size_alloc, World.size_drew]); omega) _ | refine Grew.trans ?_ (by assumption)))⟩
set_option maxHeartbeats 4000000 in
theorem place_ok (W H S X Y t : Int) (w : World) (a : Addr) (hg : w.cell? ⟨1, 0, none⟩ = some (.iface 130 (.pointer (some a)))) (h : gridB W H S X Y = true) (h0 : 0 ≤ t) (h1 : t < W * H) :
    Calls Tryd.prog 18 #[.agg #[.int .i64 W, .int .i64 H, .int .i64 S, .int .i64 X, .int .i64 Y], .int .i64 t] w fun e w' => e = .returned (.tuple #[.agg #[.int .i64 (tileX W S X t), .int .i64 (tileY W S Y t)], .nilIface]) ∧ Grew w w' := by
  obtain ⟨⟨f1, f2, f3, f4⟩, ⟨f5, f6, f7, f8, f9, f10⟩, fW, fH, fA⟩ := grid_facts h
  have r0 : 0 ≤ t.tmod W ∧ t.tmod W ≤ 31 ∧ t.tmod W ≤ W - 1 := by
    rw [Int.tmod_eq_emod_of_nonneg h0]
    have := Int.emod_nonneg t (show W ≠ 0 by omega)
    have := Int.emod_lt_of_pos t (show 0 < W by omega)
    omega
  have r1 : 0 ≤ t.tdiv W ∧ t.tdiv W ≤ 31 ∧ t.tdiv W ≤ H - 1 := by
    rw [Int.tdiv_eq_ediv_of_nonneg h0]
    have := Int.ediv_nonneg h0 (show 0 ≤ W by omega)
    have := Int.ediv_lt_of_lt_mul (show 0 < W by omega) (show t < H * W by rw [Int.mul_comm]; exact h1)
    omega
  obtain ⟨m0, m1⟩ := prod_facts r0.1 (show 0 ≤ S by omega) r0.2.1 f10
  obtain ⟨n0, n1⟩ := prod_facts r1.1 (show 0 ≤ S by omega) r1.2.1 f10
  have hW0 : (W == 0) = false := by rw [beq_eq_false_iff_ne]; omega
  have hW1 : W ≠ 0 := by omega
  have e1 : IntKind.i64.wrap (t.tmod W) = t.tmod W := IntWalk.i64_in _ (by omega)
  have e2 : IntKind.i64.wrap (t.tdiv W) = t.tdiv W := IntWalk.i64_in _ (by omega)
  have e3 : IntKind.i64.wrap (t.tmod W * S) = t.tmod W * S := IntWalk.i64_in _ (by omega)
  have e4 : IntKind.i64.wrap (t.tdiv W * S) = t.tdiv W * S := IntWalk.i64_in _ (by omega)
  have e5 : IntKind.i64.wrap (X + t.tmod W * S) = X + t.tmod W * S := IntWalk.i64_in _ (by omega)
  have e6 : IntKind.i64.wrap (Y + t.tdiv W * S) = Y + t.tdiv W * S := IntWalk.i64_in _ (by omega)
  have c0 : decide (t < 0) = false := by simp; omega
  have c1 : decide (W * H ≤ t) = false := by simp; omega
  have c2 : IntKind.i64.wrap (W * H) = W * H := IntWalk.i64_in _ (by omega)
  have c3 : wrap64 (W * H) = W * H := IntWalk.wrap64_in _ (by omega)
  clear h0 h1 f1 f2 f3 f4 f5 f6 f7 f8 f9 f10 fW fH r0 r1 m0 m1 n0 n1
  go_enter Tryd.func18, Tryd.ntmps18
  go_wp2_with (go_at_call 17; refine (tright_any _ _ _ _ _ _ a (((Grew.facts (W := w) (by first | (simp [*]; done) | repeat (first | exact Grew.refl _ | assumption | refine Grew.drew ?_ | refine Grew.alloc ?_ _ | refine Grew.setCell ?_ (by (try simp only [World.size_alloc, World.size_drew]); omega) _ | refine Grew.trans ?_ (by assumption)))).1 _ _ (lt_of_cell hg)).trans hg)).mono ?_; rintro e w' ⟨rfl, hb⟩; obtain ⟨hc, hf⟩ := hb.facts; have hz := hb.size; (try simp only [World.size_alloc, World.size_drew] at hz); (try (have hcq := fun o => hc (w.heap.size) o (by (try simp only [World.size_alloc, World.size_drew]); omega))); (try (have hcq := fun o => hc (w.heap.size + 1) o (by (try simp only [World.size_alloc, World.size_drew]); omega))); (try (have hcq := fun o => hc (w.heap.size + 1 + 1) o (by (try simp only [World.size_alloc, World.size_drew]); omega))); (try (have hcq := fun o => hc (w.heap.size + 1 + 1 + 1) o (by (try simp only [World.size_alloc, World.size_drew]); omega))); (try (have hcq := fun o => hc (w1.heap.size) o (by (try simp only [World.size_alloc, World.size_drew]); omega))); (try (have hcq := fun o => hc (w1.heap.size + 1) o (by (try simp only [World.size_alloc, World.size_drew]); omega))); (try (have hcq := fun o => hc (w2.heap.size) o (by (try simp only [World.size_alloc, World.size_drew]); omega))); (try (have hcq := fun o => hc (w2.heap.size + 1) o (by (try simp only [World.size_alloc, World.size_drew]); omega))); (try (have hcq := fun o => hc (0) o (by (try simp only [World.size_alloc, World.size_drew]); omega))); (try (have hcq := fun o => hc (1) o (by (try simp only [World.size_alloc, World.size_drew]); omega))); (try (have hcq := fun o => hc (2) o (by (try simp only [World.size_alloc, World.size_drew]); omega))); (try (have hq : w.heap.size < w'.heap.size := by omega)); (try (have hq : w.heap.size + 1 < w'.heap.size := by omega)); (try (have hq : w.heap.size + 1 + 1 < w'.heap.size := by omega)); (try (have hq : w.heap.size + 1 + 1 + 1 < w'.heap.size := by omega)); (try (have hq : w1.heap.size < w'.heap.size := by omega)); (try (have hq : w1.heap.size + 1 < w'.heap.size := by omega)); (try (have hq : w2.heap.size < w'.heap.size := by omega)); (try (have hq : w2.heap.size + 1 < w'.heap.size := by omega)); (try (have hq : 0 < w'.heap.size := by omega)); (try (have hq : 1 < w'.heap.size := by omega)); (try (have hq : 2 < w'.heap.size := by omega)))
  go_region
  go_wp2
  exact bodyPost_ret (v := .tuple #[.agg #[.int .i64 (tileX W S X t), .int .i64 (tileY W S Y t)], .nilIface]) (by simp [results, Tryd.results18, go_sem, *, tileX, tileY]) rfl ⟨rfl, (by repeat (first | exact Grew.refl _ | assumption | refine Grew.drew ?_ | refine Grew.alloc ?_ _ | refine Grew.setCell ?_ (by (try simp only [World.size_alloc, World.size_drew]); omega) _ | refine Grew.trans ?_ (by assumption)))⟩
end Go.Proofs.YtbgbfljbjpbinaaDoor

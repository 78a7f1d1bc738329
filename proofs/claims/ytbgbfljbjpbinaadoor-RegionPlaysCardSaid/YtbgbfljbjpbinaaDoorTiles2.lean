/- The walks of tiles.At, Place and the reference's Tile. The sentinels' cells are hypotheses. -/
import Derived.Test.YtbgbfljbjpbinaaDoorTiles1
namespace Go.Proofs.YtbgbfljbjpbinaaDoor
set_option linter.unusedSimpArgs false
set_option linter.unusedVariables false
open Go.RowKit

theorem grid_facts {W H S X Y : Int} (h : gridB W H S X Y = true) : (-1048576 ≤ X ∧ X ≤ 1048576 ∧ -1048576 ≤ Y ∧ Y ≤ 1048576) ∧ (1 ≤ W ∧ W ≤ 32 ∧ 1 ≤ H ∧ H ≤ 32 ∧ 1 ≤ S ∧ S ≤ 65536) ∧ (1 ≤ W * S ∧ W * S ≤ 2097152) ∧ (1 ≤ H * S ∧ H * S ≤ 2097152) ∧ (1 ≤ W * H ∧ W * H ≤ 1024) := by
  rw [gridB_eq] at h
  simp only [Bool.and_eq_true, decide_eq_true_eq, withinB_iff] at h
  obtain ⟨⟨⟨⟨⟨⟨⟨a, b⟩, c⟩, d⟩, e⟩, f⟩, g1, g2⟩, g3, g4⟩ := h
  have m1 := Int.mul_le_mul b f (by omega) (by omega)
  have m2 := Int.mul_le_mul d f (by omega) (by omega)
  have m3 := Int.mul_le_mul b d (by omega) (by omega)
  have p1 := Int.mul_pos (show 0 < W by omega) (show 0 < S by omega)
  have p2 := Int.mul_pos (show 0 < H by omega) (show 0 < S by omega)
  have p3 := Int.mul_pos (show 0 < W by omega) (show 0 < H by omega)
  refine ⟨⟨g1, g2, g3, g4⟩, ⟨a, b, c, d, e, f⟩, ⟨by omega, by omega⟩, ⟨by omega, by omega⟩, ⟨by omega, by omega⟩⟩
theorem wholeX_eq {W S X : Int} (h1 : -1048576 ≤ X ∧ X ≤ 1048576) (h2 : 1 ≤ W * S ∧ W * S ≤ 2097152) : wholeX W S X = X + W * S - 1 := by
  unfold wholeX
  rw [IntWalk.wrap64_in (W * S) (by omega), IntWalk.wrap64_in (X + W * S) (by omega), IntWalk.wrap64_in _ (by omega)]
theorem quo_facts {n S H : Int} (h0 : 0 ≤ n) (hS : 1 ≤ S) (h : n < H * S) : 0 ≤ n.tdiv S ∧ n.tdiv S < H ∧ n.tdiv S * S ≤ n ∧ n < n.tdiv S * S + S := by
  rw [Int.tdiv_eq_ediv_of_nonneg h0]
  have hm := Int.emod_add_mul_ediv n S
  have l := Int.emod_nonneg n (show S ≠ 0 by omega)
  have u := Int.emod_lt_of_pos n (show 0 < S by omega)
  have := Int.mul_comm S (n / S)
  exact ⟨Int.ediv_nonneg h0 (by omega), Int.ediv_lt_of_lt_mul (by omega) h, by omega, by omega⟩
theorem prod_facts {a b A B : Int} (ha : 0 ≤ a) (hb : 0 ≤ b) (hA : a ≤ A) (hB : b ≤ B) : 0 ≤ a * b ∧ a * b ≤ A * B :=
  ⟨Int.mul_nonneg ha hb, Int.mul_le_mul hA hB hb (by omega)⟩

def atI (W S X Y p q : Int) : Int := (q - Y).tdiv S * W + (p - X).tdiv S

set_option maxHeartbeats 4000000 in
theorem at_in (W H S X Y p q : Int) (w : World) (a : Addr) (hg : w.cell? ⟨1, 0, none⟩ = some (.iface 130 (.pointer (some a)))) (h : gridB W H S X Y = true) (h0 : X ≤ p) (h1 : p < X + W * S) (h2 : Y ≤ q) (h3 : q < Y + H * S) :
    Calls Tryd.prog 19 #[.agg #[.int .i64 W, .int .i64 H, .int .i64 S, .int .i64 X, .int .i64 Y], .agg #[.int .i64 p, .int .i64 q]] w fun e w' => e = .returned (.tuple #[.int .i64 (atI W S X Y p q), .bool true]) ∧ Grew w w' := by
  obtain ⟨⟨f1, f2, f3, f4⟩, ⟨f5, f6, f7, f8, f9, f10⟩, fW, fH, fA⟩ := grid_facts h
  obtain ⟨q0, q1, q2, q3⟩ := quo_facts (n := q - Y) (S := S) (H := H) (by omega) (by omega) (by omega)
  obtain ⟨p0, p1, p2, p3⟩ := quo_facts (n := p - X) (S := S) (H := W) (by omega) (by omega) (by omega)
  obtain ⟨m0, m1⟩ := prod_facts q0 (show 0 ≤ W by omega) (show _ ≤ 31 by omega) f6
  have e1 : IntKind.i64.wrap (q - Y) = q - Y := IntWalk.i64_in _ (by omega)
  have e2 : IntKind.i64.wrap (p - X) = p - X := IntWalk.i64_in _ (by omega)
  have e3 : IntKind.i64.wrap ((q - Y).tdiv S) = (q - Y).tdiv S := IntWalk.i64_in _ (by omega)
  have e4 : IntKind.i64.wrap ((p - X).tdiv S) = (p - X).tdiv S := IntWalk.i64_in _ (by omega)
  have e5 : IntKind.i64.wrap ((q - Y).tdiv S * W) = (q - Y).tdiv S * W := IntWalk.i64_in _ (by omega)
  have e6 : IntKind.i64.wrap ((q - Y).tdiv S * W + (p - X).tdiv S) = (q - Y).tdiv S * W + (p - X).tdiv S := IntWalk.i64_in _ (by omega)
  have c0 : decide (p < X) = false := by simp; omega
  have c1 : decide (wholeX W S X < p) = false := by rw [wholeX_eq ⟨f1, f2⟩ fW]; simp; omega
  have c2 : decide (q < Y) = false := by simp; omega
  have c3 : decide (wholeX H S Y < q) = false := by rw [wholeX_eq ⟨f3, f4⟩ fH]; simp; omega
  have hS0 : (S == 0) = false := by rw [beq_eq_false_iff_ne]; omega
  have hS1 : S ≠ 0 := by omega
  clear h0 h1 h2 h3 f1 f2 f3 f4 f5 f6 f7 f8 f10 fW fH fA q0 q1 q2 q3 p0 p1 p2 p3 m0 m1
  go_enter Tryd.func19, Tryd.ntmps19
  go_wp2_with (first | (go_at_call 54; refine (whole_any _ _ _ _ _ _).mono ?_; rintro e w' ⟨rfl, hb⟩; obtain ⟨hc, hf⟩ := hb.facts; have hz := hb.size; (try simp only [World.size_alloc, World.size_drew] at hz); (try (have hcq := fun o => hc (w.heap.size) o (by (try simp only [World.size_alloc, World.size_drew]); omega))); (try (have hcq := fun o => hc (w.heap.size + 1) o (by (try simp only [World.size_alloc, World.size_drew]); omega))); (try (have hcq := fun o => hc (w.heap.size + 1 + 1) o (by (try simp only [World.size_alloc, World.size_drew]); omega))); (try (have hcq := fun o => hc (w.heap.size + 1 + 1 + 1) o (by (try simp only [World.size_alloc, World.size_drew]); omega))); (try (have hcq := fun o => hc (w1.heap.size) o (by (try simp only [World.size_alloc, World.size_drew]); omega))); (try (have hcq := fun o => hc (w1.heap.size + 1) o (by (try simp only [World.size_alloc, World.size_drew]); omega))); (try (have hcq := fun o => hc (w2.heap.size) o (by (try simp only [World.size_alloc, World.size_drew]); omega))); (try (have hcq := fun o => hc (w2.heap.size + 1) o (by (try simp only [World.size_alloc, World.size_drew]); omega))); (try (have hcq := fun o => hc (0) o (by (try simp only [World.size_alloc, World.size_drew]); omega))); (try (have hcq := fun o => hc (1) o (by (try simp only [World.size_alloc, World.size_drew]); omega))); (try (have hcq := fun o => hc (2) o (by (try simp only [World.size_alloc, World.size_drew]); omega))); (try (have hq : w.heap.size < w'.heap.size := by omega)); (try (have hq : w.heap.size + 1 < w'.heap.size := by omega)); (try (have hq : w.heap.size + 1 + 1 < w'.heap.size := by omega)); (try (have hq : w.heap.size + 1 + 1 + 1 < w'.heap.size := by omega)); (try (have hq : w1.heap.size < w'.heap.size := by omega)); (try (have hq : w1.heap.size + 1 < w'.heap.size := by omega)); (try (have hq : w2.heap.size < w'.heap.size := by omega)); (try (have hq : w2.heap.size + 1 < w'.heap.size := by omega)); (try (have hq : 0 < w'.heap.size := by omega)); (try (have hq : 1 < w'.heap.size := by omega)); (try (have hq : 2 < w'.heap.size := by omega))) | (go_at_call 17; refine (tright_any _ _ _ _ _ _ a (((Grew.facts (W := w) (by first | (simp [*]; done) | repeat (first | exact Grew.refl _ | assumption | refine Grew.drew ?_ | refine Grew.alloc ?_ _ | refine Grew.setCell ?_ (by (try simp only [World.size_alloc, World.size_drew]); omega) _ | refine Grew.trans ?_ (by assumption)))).1 _ _ (lt_of_cell hg)).trans hg)).mono ?_; rintro e w' ⟨rfl, hb⟩; obtain ⟨hc, hf⟩ := hb.facts; have hz := hb.size; (try simp only [World.size_alloc, World.size_drew] at hz); (try (have hcq := fun o => hc (w.heap.size) o (by (try simp only [World.size_alloc, World.size_drew]); omega))); (try (have hcq := fun o => hc (w.heap.size + 1) o (by (try simp only [World.size_alloc, World.size_drew]); omega))); (try (have hcq := fun o => hc (w.heap.size + 1 + 1) o (by (try simp only [World.size_alloc, World.size_drew]); omega))); (try (have hcq := fun o => hc (w.heap.size + 1 + 1 + 1) o (by (try simp only [World.size_alloc, World.size_drew]); omega))); (try (have hcq := fun o => hc (w1.heap.size) o (by (try simp only [World.size_alloc, World.size_drew]); omega))); (try (have hcq := fun o => hc (w1.heap.size + 1) o (by (try simp only [World.size_alloc, World.size_drew]); omega))); (try (have hcq := fun o => hc (w2.heap.size) o (by (try simp only [World.size_alloc, World.size_drew]); omega))); (try (have hcq := fun o => hc (w2.heap.size + 1) o (by (try simp only [World.size_alloc, World.size_drew]); omega))); (try (have hcq := fun o => hc (0) o (by (try simp only [World.size_alloc, World.size_drew]); omega))); (try (have hcq := fun o => hc (1) o (by (try simp only [World.size_alloc, World.size_drew]); omega))); (try (have hcq := fun o => hc (2) o (by (try simp only [World.size_alloc, World.size_drew]); omega))); (try (have hq : w.heap.size < w'.heap.size := by omega)); (try (have hq : w.heap.size + 1 < w'.heap.size := by omega)); (try (have hq : w.heap.size + 1 + 1 < w'.heap.size := by omega)); (try (have hq : w.heap.size + 1 + 1 + 1 < w'.heap.size := by omega)); (try (have hq : w1.heap.size < w'.heap.size := by omega)); (try (have hq : w1.heap.size + 1 < w'.heap.size := by omega)); (try (have hq : w2.heap.size < w'.heap.size := by omega)); (try (have hq : w2.heap.size + 1 < w'.heap.size := by omega)); (try (have hq : 0 < w'.heap.size := by omega)); (try (have hq : 1 < w'.heap.size := by omega)); (try (have hq : 2 < w'.heap.size := by omega))))
  go_region
  go_wp2
  exact bodyPost_ret (v := .tuple #[.int .i64 (atI W S X Y p q), .bool true]) (by simp [results, Tryd.results19, go_sem, *, atI]) rfl ⟨rfl, (by repeat (first | exact Grew.refl _ | assumption | refine Grew.drew ?_ | refine Grew.alloc ?_ _ | refine Grew.setCell ?_ (by (try simp only [World.size_alloc, World.size_drew]); omega) _ | refine Grew.trans ?_ (by assumption)))⟩
end Go.Proofs.YtbgbfljbjpbinaaDoor

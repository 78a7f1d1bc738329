/- The walk of the law TilesSums: it answers true. Conditions: the sentinels' cells; the list's cells. -/
import Derived.Test.YtbgbfljbjpbinaaDoorAlive14
import Derived.Test.YtbgbfljbjpbinaaDoorMap2
import Derived.Test.YtbgbfljbjpbinaaDoorMap3
import Derived.Test.YtbgbfljbjpbinaaDoorMap4
namespace Go.Proofs.YtbgbfljbjpbinaaDoor
set_option linter.unusedSimpArgs false
set_option linter.unusedVariables false
open Go.RowKit

theorem put_any (P C N : Nat) (W H S X Y b0 b1 b2 b3 : Int) (c : Nat → Int) (w : World) (a : Addr) (hg : w.cell? ⟨1, 0, none⟩ = some (.iface 130 (.pointer (some a)))) (hM : MapAt w P C N W H S X Y c) (h : gridB W H S X Y = true) (hN : W * H = N) (hc : ∀ k, k < N → 0 ≤ c k ∧ c k ≤ 1000000) :
    Calls Tryd.prog 21 #[.pointer (some ⟨P, 0, none⟩), .agg #[.int .i64 b0, .int .i64 b1, .int .i64 b2, .int .i64 b3]] w fun e w' => (∃ v, e = .returned v ∧ NewInts w' v (passed (fresh c (underN W H S X Y b0 b1 b2 b3)) N) w.heap.size ∧ MapAt w' P C N W H S X Y (bump c (underN W H S X Y b0 b1 b2 b3) 1 N)) ∧ Turn C w w' := by
  obtain ⟨_, _, _, _, fA⟩ := grid_facts h
  refine put_core P C N W H S X Y b0 b1 b2 b3 c _ w hM (by omega) hc fun w1 g => ?_
  have := under_new W H S X Y b0 b1 b2 b3 w1 a ((g.facts.1 _ _ (lt_of_cell hg)).trans hg)
  rw [underL, hN, Int.toNat_natCast] at this
  exact this

/-- The boxes of a list lie in memory. -/
def BoxesIn (w : World) (v : Option Addr) (n : Nat) : Prop := n = 0 ∨ ∃ bb off, v = some ⟨bb, off, none⟩ ∧ bb < w.heap.size ∧ ∀ i, i < n → ∃ b0 b1 b2 b3 : Int,
  w.cell? ⟨bb, off + i * 4, none⟩ = some (.int .i64 b0) ∧ w.cell? ⟨bb, off + i * 4 + 1, none⟩ = some (.int .i64 b1) ∧ w.cell? ⟨bb, off + i * 4 + 2, none⟩ = some (.int .i64 b2) ∧ w.cell? ⟨bb, off + i * 4 + 3, none⟩ = some (.int .i64 b3)

def total (c : Nat → Int) : Nat → Int
  | 0 => 0
  | n + 1 => total c n + c n
theorem total_bump {c : Nat → Int} {f : Nat → Bool} {m n : Nat} (h : n ≤ m) : total (bump c f 1 m) n = total c n + (passed f n).length := by
  induction n with
  | zero => simp [total, passed]
  | succ n ih =>
    have := ih (by omega)
    cases hf : f n
    · rw [passed_miss hf]; simp only [total, this, bump, hf]; simp; omega
    · rw [passed_hit hf]; simp only [total, this, bump, hf, show decide (n < m) = true by simp; omega]; simp; omega
theorem total_le {c : Nat → Int} {K : Int} {n : Nat} (h : ∀ k, k < n → 0 ≤ c k ∧ c k ≤ K) : 0 ≤ total c n ∧ total c n ≤ K * n := by
  induction n with
  | zero => simp [total]
  | succ n ih =>
    have h1 := ih fun k hk => h k (by omega)
    have h2 := h n (by omega)
    have e : K * ((n + 1 : Nat) : Int) = K * n + K := by push_cast; rw [Int.mul_add, Int.mul_one]
    rw [e]
    simp only [total]; omega
theorem bump_le {c : Nat → Int} {f : Nat → Bool} {m k : Nat} {i : Int} (h : 0 ≤ c k ∧ c k ≤ i) : 0 ≤ bump c f 1 m k ∧ bump c f 1 m k ≤ i + 1 := by
  unfold bump; split <;> omega

set_option maxRecDepth 100000 in
set_option maxHeartbeats 8000000 in
theorem tilesSums_any (W H S X Y : Int) (v : Option Addr) (n cap : Nat) (w : World) (a b : Addr) (hg : w.cell? ⟨1, 0, none⟩ = some (.iface 130 (.pointer (some a)))) (hform : w.cell? ⟨0, 0, none⟩ = some (.iface 130 (.pointer (some b)))) (hB : BoxesIn w v n) :
    Calls Tryd.prog 5 #[.agg #[.int .i64 W, .int .i64 H, .int .i64 S, .int .i64 X, .int .i64 Y], .slice v n cap] w fun e w' => e = .returned (.bool true) ∧ Grew w w' := by
  have HB : Hid (BoxesIn w v n) := hB
  clear hB
  cases hgr : gridB W H S X Y
  · by_cases hn : 60 < n
    · go_enter Tryd.func5, Tryd.ntmps5
      go_wp2_with (first | (go_at_call 13; refine (alive14_any _ a (((Grew.facts (W := w) (by repeat (first | exact Grew.refl _ | assumption | refine Grew.drew ?_ | refine Grew.alloc ?_ _ | refine Grew.setCell ?_ (by (try simp only [World.size_alloc, World.size_drew]); omega) _ | refine Grew.trans ?_ (by assumption)))).1 _ _ (lt_of_cell hg)).trans hg)).mono ?_; rintro e w1 ⟨rfl, hb⟩; obtain ⟨hc, hf⟩ := hb.facts; have hz := hb.size; (try simp only [World.size_alloc, World.size_drew] at hz); (try (have hcq := fun o => hc (w.heap.size) o (by (try simp only [World.size_alloc, World.size_drew]); omega))); (try (have hq : w.heap.size < w1.heap.size := by omega))) | (go_at_call 20; refine (tnew_no _ _ _ _ _ _ a b (((Grew.facts (W := w) (by repeat (first | exact Grew.refl _ | assumption | refine Grew.drew ?_ | refine Grew.alloc ?_ _ | refine Grew.setCell ?_ (by (try simp only [World.size_alloc, World.size_drew]); omega) _ | refine Grew.trans ?_ (by assumption)))).1 _ _ (lt_of_cell hg)).trans hg) (((Grew.facts (W := w) (by repeat (first | exact Grew.refl _ | assumption | refine Grew.drew ?_ | refine Grew.alloc ?_ _ | refine Grew.setCell ?_ (by (try simp only [World.size_alloc, World.size_drew]); omega) _ | refine Grew.trans ?_ (by assumption)))).1 _ _ (lt_of_cell hform)).trans hform) hgr).mono ?_; rintro e w2 ⟨rfl, hb⟩; obtain ⟨hc, hf⟩ := hb.facts; have hz := hb.size; (try simp only [World.size_alloc, World.size_drew] at hz); (try (have hcq := fun o => hc (w.heap.size) o (by (try simp only [World.size_alloc, World.size_drew]); omega))); (try (have hq : w.heap.size < w2.heap.size := by omega))) | (go_at_call 17; refine (tright_any _ _ _ _ _ _ a (((Grew.facts (W := w) (by repeat (first | exact Grew.refl _ | assumption | refine Grew.drew ?_ | refine Grew.alloc ?_ _ | refine Grew.setCell ?_ (by (try simp only [World.size_alloc, World.size_drew]); omega) _ | refine Grew.trans ?_ (by assumption)))).1 _ _ (lt_of_cell hg)).trans hg)).mono ?_; rintro e w3 ⟨rfl, hb⟩; obtain ⟨hc, hf⟩ := hb.facts; have hz := hb.size; (try simp only [World.size_alloc, World.size_drew] at hz); (try (have hcq := fun o => hc (w.heap.size) o (by (try simp only [World.size_alloc, World.size_drew]); omega))); (try (have hq : w.heap.size < w3.heap.size := by omega))))
      go_ret
      exact ⟨rfl, (by repeat (first | exact Grew.refl _ | assumption | refine Grew.drew ?_ | refine Grew.alloc ?_ _ | refine Grew.setCell ?_ (by (try simp only [World.size_alloc, World.size_drew]); omega) _ | refine Grew.trans ?_ (by assumption)))⟩
    · go_enter Tryd.func5, Tryd.ntmps5
      go_wp2_with (first | (go_at_call 13; refine (alive14_any _ a (((Grew.facts (W := w) (by repeat (first | exact Grew.refl _ | assumption | refine Grew.drew ?_ | refine Grew.alloc ?_ _ | refine Grew.setCell ?_ (by (try simp only [World.size_alloc, World.size_drew]); omega) _ | refine Grew.trans ?_ (by assumption)))).1 _ _ (lt_of_cell hg)).trans hg)).mono ?_; rintro e w1 ⟨rfl, hb⟩; obtain ⟨hc, hf⟩ := hb.facts; have hz := hb.size; (try simp only [World.size_alloc, World.size_drew] at hz); (try (have hcq := fun o => hc (w.heap.size) o (by (try simp only [World.size_alloc, World.size_drew]); omega))); (try (have hq : w.heap.size < w1.heap.size := by omega))) | (go_at_call 20; refine (tnew_no _ _ _ _ _ _ a b (((Grew.facts (W := w) (by repeat (first | exact Grew.refl _ | assumption | refine Grew.drew ?_ | refine Grew.alloc ?_ _ | refine Grew.setCell ?_ (by (try simp only [World.size_alloc, World.size_drew]); omega) _ | refine Grew.trans ?_ (by assumption)))).1 _ _ (lt_of_cell hg)).trans hg) (((Grew.facts (W := w) (by repeat (first | exact Grew.refl _ | assumption | refine Grew.drew ?_ | refine Grew.alloc ?_ _ | refine Grew.setCell ?_ (by (try simp only [World.size_alloc, World.size_drew]); omega) _ | refine Grew.trans ?_ (by assumption)))).1 _ _ (lt_of_cell hform)).trans hform) hgr).mono ?_; rintro e w2 ⟨rfl, hb⟩; obtain ⟨hc, hf⟩ := hb.facts; have hz := hb.size; (try simp only [World.size_alloc, World.size_drew] at hz); (try (have hcq := fun o => hc (w.heap.size) o (by (try simp only [World.size_alloc, World.size_drew]); omega))); (try (have hq : w.heap.size < w2.heap.size := by omega))) | (go_at_call 17; refine (tright_any _ _ _ _ _ _ a (((Grew.facts (W := w) (by repeat (first | exact Grew.refl _ | assumption | refine Grew.drew ?_ | refine Grew.alloc ?_ _ | refine Grew.setCell ?_ (by (try simp only [World.size_alloc, World.size_drew]); omega) _ | refine Grew.trans ?_ (by assumption)))).1 _ _ (lt_of_cell hg)).trans hg)).mono ?_; rintro e w3 ⟨rfl, hb⟩; obtain ⟨hc, hf⟩ := hb.facts; have hz := hb.size; (try simp only [World.size_alloc, World.size_drew] at hz); (try (have hcq := fun o => hc (w.heap.size) o (by (try simp only [World.size_alloc, World.size_drew]); omega))); (try (have hq : w.heap.size < w3.heap.size := by omega))))
      go_ret
      exact ⟨rfl, (by repeat (first | exact Grew.refl _ | assumption | refine Grew.drew ?_ | refine Grew.alloc ?_ _ | refine Grew.setCell ?_ (by (try simp only [World.size_alloc, World.size_drew]); omega) _ | refine Grew.trans ?_ (by assumption)))⟩
  obtain ⟨_, ⟨g1, g2, g3, g4, g5, g6⟩, _, _, fA⟩ := grid_facts hgr
  obtain ⟨N, hN⟩ : ∃ N : Nat, W * H = N := ⟨(W * H).toNat, by omega⟩
  have hN1 : N ≤ 1024 := by omega
  clear fA
  by_cases hn : 60 < n
  · go_enter Tryd.func5, Tryd.ntmps5
    go_wp2_with (first | (go_at_call 13; refine (alive14_any _ a (((Grew.facts (W := w) (by repeat (first | exact Grew.refl _ | assumption | refine Grew.drew ?_ | refine Grew.alloc ?_ _ | refine Grew.setCell ?_ (by (try simp only [World.size_alloc, World.size_drew]); omega) _ | refine Grew.trans ?_ (by assumption)))).1 _ _ (lt_of_cell hg)).trans hg)).mono ?_; rintro e w1 ⟨rfl, hb⟩; obtain ⟨hc, hf⟩ := hb.facts; have hz := hb.size; (try simp only [World.size_alloc, World.size_drew] at hz); (try (have hcq := fun o => hc (w.heap.size) o (by (try simp only [World.size_alloc, World.size_drew]); omega))); (try (have hq : w.heap.size < w1.heap.size := by omega))) | (go_at_call 20; refine (tnew_yes _ _ _ _ _ N _ a (((Grew.facts (W := w) (by repeat (first | exact Grew.refl _ | assumption | refine Grew.drew ?_ | refine Grew.alloc ?_ _ | refine Grew.setCell ?_ (by (try simp only [World.size_alloc, World.size_drew]); omega) _ | refine Grew.trans ?_ (by assumption)))).1 _ _ (lt_of_cell hg)).trans hg) hgr hN).mono ?_; rintro e w2 ⟨⟨P, C, rfl, hM, hP0, hC0⟩, hb⟩; obtain ⟨hc, hf⟩ := hb.facts; have hz := hb.size; (try simp only [World.size_alloc, World.size_drew] at hz); (try (have hcq := fun o => hc (w.heap.size) o (by (try simp only [World.size_alloc, World.size_drew]); omega))); (try (have hq : w.heap.size < w2.heap.size := by omega))))
    go_ret
    exact ⟨rfl, (by repeat (first | exact Grew.refl _ | assumption | refine Grew.drew ?_ | refine Grew.alloc ?_ _ | refine Grew.setCell ?_ (by (try simp only [World.size_alloc, World.size_drew]); omega) _ | refine Grew.trans ?_ (by assumption)))⟩
  go_enter Tryd.func5, Tryd.ntmps5
  go_wp2_with (first | (go_at_call 13; refine (alive14_any _ a (((Grew.facts (W := w) (by repeat (first | exact Grew.refl _ | assumption | refine Grew.drew ?_ | refine Grew.alloc ?_ _ | refine Grew.setCell ?_ (by (try simp only [World.size_alloc, World.size_drew]); omega) _ | refine Grew.trans ?_ (by assumption)))).1 _ _ (lt_of_cell hg)).trans hg)).mono ?_; rintro e w1 ⟨rfl, hb⟩; obtain ⟨hc, hf⟩ := hb.facts; have hz := hb.size; (try simp only [World.size_alloc, World.size_drew] at hz); (try (have hcq := fun o => hc (w.heap.size) o (by (try simp only [World.size_alloc, World.size_drew]); omega))); (try (have hq : w.heap.size < w1.heap.size := by omega))) | (go_at_call 20; refine (tnew_yes _ _ _ _ _ N _ a (((Grew.facts (W := w) (by repeat (first | exact Grew.refl _ | assumption | refine Grew.drew ?_ | refine Grew.alloc ?_ _ | refine Grew.setCell ?_ (by (try simp only [World.size_alloc, World.size_drew]); omega) _ | refine Grew.trans ?_ (by assumption)))).1 _ _ (lt_of_cell hg)).trans hg) hgr hN).mono ?_; rintro e w2 ⟨⟨P, C, rfl, hM, hP0, hC0⟩, hb⟩; obtain ⟨hc, hf⟩ := hb.facts; have hz := hb.size; (try simp only [World.size_alloc, World.size_drew] at hz); (try (have hcq := fun o => hc (w.heap.size) o (by (try simp only [World.size_alloc, World.size_drew]); omega))); (try (have hq : w.heap.size < w2.heap.size := by omega))))
  have hGw : Grew w w2 := (by repeat (first | exact Grew.refl _ | assumption | refine Grew.drew ?_ | refine Grew.alloc ?_ _ | refine Grew.setCell ?_ (by (try simp only [World.size_alloc, World.size_drew]); omega) _ | refine Grew.trans ?_ (by assumption)))
  have hzA := hGw.size
  have hzw : w.heap.size < w1.heap.size := by assumption
  have e0 : w2.cell? ⟨w.heap.size, 0, none⟩ = some (.int .i64 W) := by simp [go_sem, *]
  have e1 : w2.cell? ⟨w.heap.size, 1, none⟩ = some (.int .i64 H) := by simp [go_sem, *]
  have e2 : w2.cell? ⟨w.heap.size, 2, none⟩ = some (.int .i64 S) := by simp [go_sem, *]
  have e3 : w2.cell? ⟨w.heap.size, 3, none⟩ = some (.int .i64 X) := by simp [go_sem, *]
  have e4 : w2.cell? ⟨w.heap.size, 4, none⟩ = some (.int .i64 Y) := by simp [go_sem, *]
  have HE : Hid (∀ wr, Turn C w2 wr → wr.cell? ⟨w.heap.size, 0, none⟩ = some (.int .i64 W) ∧ wr.cell? ⟨w.heap.size, 1, none⟩ = some (.int .i64 H) ∧ wr.cell? ⟨w.heap.size, 2, none⟩ = some (.int .i64 S) ∧ wr.cell? ⟨w.heap.size, 3, none⟩ = some (.int .i64 X) ∧ wr.cell? ⟨w.heap.size, 4, none⟩ = some (.int .i64 Y) ∧ wr.cell? ⟨1, 0, none⟩ = some (.iface 130 (.pointer (some a)))) := fun wr h => by
    have q : w.heap.size < w2.heap.size := by omega
    have r := lt_of_cell hg
    exact ⟨(h.facts.1 _ _ q (by omega)).trans e0, (h.facts.1 _ _ q (by omega)).trans e1, (h.facts.1 _ _ q (by omega)).trans e2, (h.facts.1 _ _ q (by omega)).trans e3, (h.facts.1 _ _ q (by omega)).trans e4, ((h.facts.1 _ _ (by omega) (by omega)).trans (hGw.facts.1 _ _ r)).trans hg⟩
  have HX : Hid (∀ wr, Turn C w2 wr → n = 0 ∨ ∃ bb off, v = some ⟨bb, off, none⟩ ∧ bb < w.heap.size ∧ ∀ i, i < n → ∃ b0 b1 b2 b3 : Int,
  wr.cell? ⟨bb, off + i * 4, none⟩ = some (.int .i64 b0) ∧ wr.cell? ⟨bb, off + i * 4 + 1, none⟩ = some (.int .i64 b1) ∧ wr.cell? ⟨bb, off + i * 4 + 2, none⟩ = some (.int .i64 b2) ∧ wr.cell? ⟨bb, off + i * 4 + 3, none⟩ = some (.int .i64 b3)) := fun wr h => by
    refine HB.out.imp id fun ⟨bb, off, hv, hbb, hc⟩ => ⟨bb, off, hv, hbb, fun i hi => ?_⟩
    obtain ⟨b0, b1, b2, b3, k0, k1, k2, k3⟩ := hc i hi
    have q : ∀ o, wr.cell? ⟨bb, o, none⟩ = w.cell? ⟨bb, o, none⟩ := fun o => (h.facts.1 _ _ (by omega) (by omega)).trans (hGw.facts.1 _ _ hbb)
    exact ⟨b0, b1, b2, b3, (q _).trans k0, (q _).trans k1, (q _).trans k2, (q _).trans k3⟩
  have HM0 : Hid (MapAt w2 P C N W H S X Y (fun _ => 0)) := hM
  clear e0 e1 e2 e3 e4 hM
  go_loopw [7, 36] (fun s i wr => ∃ (k : Nat) (c : Nat → Int), k ≤ n ∧ s = .int .i64 (total c N) ∧ i = .int .i64 k ∧ MapAt wr P C N W H S X Y c ∧ (∀ j, j < N → 0 ≤ c j ∧ c j ≤ k) ∧ Turn C w2 wr) (fun s i wr => n - (intOf i).toNat)
  case atStart =>
    refine ⟨0, fun _ => 0, Nat.zero_le _, ?_, by simp, HM0.out, fun j _ => by simp, Turn.refl _ _⟩
    have : total (fun _ => 0) N = 0 := by
      have := total_le (c := fun _ => 0) (K := 0) (n := N) fun k _ => by simp
      omega
    rw [this]
  case round =>
    obtain ⟨k, c, hk, rfl, rfl, hMr, hcr, hT⟩ := hrel
    obtain ⟨u0, u1⟩ := total_le hcr
    have u2 : (k : Int) * N ≤ 60 * 1024 := by
      have := Int.mul_le_mul (show (k : Int) ≤ 60 by omega) (show (N : Int) ≤ 1024 by omega) (by omega) (by omega)
      omega
    have u3 : total c N ≤ 61440 := by omega
    have HR : Hid (MapAt wr P C N W H S X Y c) := hMr
    have HT : Hid (Turn C w2 wr) := hT
    have HCR : Hid (∀ j, j < N → 0 ≤ c j ∧ c j ≤ k) := hcr
    obtain ⟨z0, z1, z2, z3, z4, z5⟩ := HE.out wr hT
    have hzr : w.heap.size < wr.heap.size := World.block_lt_of_cell? _ _ z0
    have hPC : P < wr.heap.size ∧ C < wr.heap.size := ⟨hMr.hP, hMr.hC⟩
    clear hMr hT hcr u1 u2
    by_cases hlt : k < n
    · rcases HX.out wr HT.out with h0 | ⟨bb, off, rfl, hbb, hcells⟩
      · omega
      obtain ⟨b0, b1, b2, b3, y0, y1, y2, y3⟩ := hcells k hlt
      clear hcells
      have hlen := underL_le (W := W) (H := H) (S := S) (X := X) (Y := Y) (b0 := b0) (b1 := b1) (b2 := b2) (b3 := b3)
      have hul : underL W H S X Y b0 b1 b2 b3 = passed (underN W H S X Y b0 b1 b2 b3) N := by rw [underL, hN, Int.toNat_natCast]
      rw [hul] at hlen
      have HU : Hid (∀ w1 : World, w1.cell? ⟨1, 0, none⟩ = some (.iface 130 (.pointer (some a))) → Calls Tryd.prog 15 #[.agg #[.int .i64 W, .int .i64 H, .int .i64 S, .int .i64 X, .int .i64 Y], .agg #[.int .i64 b0, .int .i64 b1, .int .i64 b2, .int .i64 b3]] w1 fun e w' => (∃ v, e = .returned v ∧ NewInts w' v (passed (underN W H S X Y b0 b1 b2 b3) N) w1.heap.size) ∧ Grew w1 w') := fun w1 h1 => by
        have := under_new W H S X Y b0 b1 b2 b3 w1 a h1
        rw [hul] at this; exact this
      have HTB : Hid (total (bump c (underN W H S X Y b0 b1 b2 b3) 1 N) N = total c N + (passed (underN W H S X Y b0 b1 b2 b3) N).length) := total_bump (Nat.le_refl _)
      clear hul
      go_wp2_with fail
      (go_at_call 15; refine (HU.out _ (((Grew.facts (W := wr) (by repeat (first | exact Grew.refl _ | assumption | refine Grew.drew ?_ | refine Grew.alloc ?_ _ | refine Grew.setCell ?_ (by (try simp only [World.size_alloc, World.size_drew]); omega) _ | refine Grew.trans ?_ (by assumption)))).1 _ _ (lt_of_cell z5)).trans z5)).mono ?_; rintro e w4 ⟨⟨u, rfl, ⟨ao, cp, rfl, hu⟩⟩, hb⟩; obtain ⟨hc, hf⟩ := hb.facts; have hz := hb.size; (try simp only [World.size_alloc, World.size_drew] at hz); (try (have hcq := fun o => hc (w.heap.size) o (by (try simp only [World.size_alloc, World.size_drew]); omega))); (try (have hcq := fun o => hc (wr.heap.size) o (by (try simp only [World.size_alloc, World.size_drew]); omega))); (try (have hq : w.heap.size < w4.heap.size := by omega)); (try (have hq : wr.heap.size < w4.heap.size := by omega)))
      clear hu
      go_wp2_with fail
      go_at_call 21
      refine (put_any P C N W H S X Y b0 b1 b2 b3 c _ a (((Grew.facts (W := wr) (by repeat (first | exact Grew.refl _ | assumption | refine Grew.drew ?_ | refine Grew.alloc ?_ _ | refine Grew.setCell ?_ (by (try simp only [World.size_alloc, World.size_drew]); omega) _ | refine Grew.trans ?_ (by assumption)))).1 _ _ (lt_of_cell z5)).trans z5) (HR.out.grew (by repeat (first | exact Grew.refl _ | assumption | refine Grew.drew ?_ | refine Grew.alloc ?_ _ | refine Grew.setCell ?_ (by (try simp only [World.size_alloc, World.size_drew]); omega) _ | refine Grew.trans ?_ (by assumption)))) hgr hN (fun j hj => by have := HCR.out j hj; omega)).mono ?_
      rintro e w5 ⟨⟨v5, rfl, hv5, hM5⟩, hT5⟩
      have hT6 : Hid (Turn C w2 w5) := (HT.out.more (by repeat (first | exact Grew.refl _ | assumption | refine Grew.drew ?_ | refine Grew.alloc ?_ _ | refine Grew.setCell ?_ (by (try simp only [World.size_alloc, World.size_drew]); omega) _ | refine Grew.trans ?_ (by assumption)))).trans hT5
      have hM6 : Hid (MapAt w5 P C N W H S X Y (bump c (underN W H S X Y b0 b1 b2 b3) 1 N)) := hM5
      clear hv5 hM5 hT5
      go_wp2_with fail
      go_roundw
      case rel => exact ⟨k + 1, _, by omega, by rw [HTB.out], by go_num, hM6.out, fun j hj => by have := bump_le (f := underN W H S X Y b0 b1 b2 b3) (m := N) (HCR.out j hj); push_cast; exact this, hT6.out⟩
      case measure => simp [intOf]; omega
    · have hcb : ∀ j, j < N → 0 ≤ c j ∧ c j ≤ 60 := fun j hj => by have := HCR.out j hj; omega
      have HCB : Hid (∀ j, j < N → 0 ≤ c j ∧ c j ≤ 60) := hcb
      clear hcb
      have HGr : Hid (Grew w wr) := HT.out.grew hGw (by omega)
      have Hw : Hid (w.heap.size ≤ wr.heap.size) := by show _ ≤ _; omega
      obtain ⟨wo, rfl⟩ : ∃ wo : World, wo = wr := ⟨_, rfl⟩
      go_wp2_with fail
      go_loopw [7, 10, 55] (fun s bl i wq => ∃ (t : Nat) (z : Int), t ≤ N ∧ s = .int .i64 z ∧ z + total c t = total c N ∧ bl = .int .i64 (passed (stood c) t).length ∧ i = .int .i64 t ∧ Grew wo wq) (fun s bl i wq => N - (intOf i).toNat)
      case atStart => exact ⟨0, total c N, Nat.zero_le _, rfl, by simp [total], by simp [passed], by simp, (by repeat (first | exact Grew.refl _ | assumption | refine Grew.drew ?_ | refine Grew.alloc ?_ _ | refine Grew.setCell ?_ (by (try simp only [World.size_alloc, World.size_drew]); omega) _ | refine Grew.trans ?_ (by assumption)))⟩
      case round =>
        obtain ⟨t, z, ht, rfl, hz, rfl, rfl, hG⟩ := hrel
        have hM := HR.out.grew hG
        have HMq : Hid (MapAt wr P C N W H S X Y c) := hM
        have HZ : Hid (z + total c t = total c N) := hz
        clear hM hz
        by_cases hlt2 : t < N
        · obtain ⟨q0, q1⟩ := HCB.out t hlt2
          have HT1 : Hid (0 ≤ total c t ∧ total c t ≤ 60 * t) := total_le fun j hj => HCB.out j (by omega)
          have hzb : 0 ≤ z + 61440 ∧ z ≤ 61440 := by have := HT1.out; have := HZ.out; omega
          have hpl := passed_le (stood c) t
          by_cases hs : c t = 0
          · have hs1 : (c t == 0) = true := by simpa using hs
            have HP : Hid (passed (stood c) (t + 1) = passed (stood c) t) := passed_miss (by simp [stood, hs])
            go_wp2_with (first | (go_at_call 22; refine (count_in _ _ _ t _ _ _ _ _ _ _ HMq.out hlt2).mono ?_; rintro e w' ⟨rfl, rfl⟩) | (go_at_call 23; refine (free_in _ _ _ t _ _ _ _ _ _ _ HMq.out hlt2).mono ?_; rintro e w' ⟨rfl, rfl⟩))
            go_roundw
            case rel => exact ⟨t + 1, z - c t, by omega, by go_num, by have := HZ.out; simp only [total]; omega, by rw [HP.out], by go_num, (by repeat (first | exact Grew.refl _ | assumption | refine Grew.drew ?_ | refine Grew.alloc ?_ _ | refine Grew.setCell ?_ (by (try simp only [World.size_alloc, World.size_drew]); omega) _ | refine Grew.trans ?_ (by assumption)))⟩
            case measure => simp [intOf]; omega
          · have hs1 : (c t == 0) = false := by simpa using hs
            have HP : Hid (passed (stood c) (t + 1) = passed (stood c) t ++ [(t : Int)]) := passed_hit (by simp [stood]; omega)
            go_wp2_with (first | (go_at_call 22; refine (count_in _ _ _ t _ _ _ _ _ _ _ HMq.out hlt2).mono ?_; rintro e w' ⟨rfl, rfl⟩) | (go_at_call 23; refine (free_in _ _ _ t _ _ _ _ _ _ _ HMq.out hlt2).mono ?_; rintro e w' ⟨rfl, rfl⟩))
            go_roundw
            case rel => exact ⟨t + 1, z - c t, by omega, by go_num, by have := HZ.out; simp only [total]; omega, by rw [HP.out, List.length_append]; go_num, by go_num, (by repeat (first | exact Grew.refl _ | assumption | refine Grew.drew ?_ | refine Grew.alloc ?_ _ | refine Grew.setCell ?_ (by (try simp only [World.size_alloc, World.size_drew]); omega) _ | refine Grew.trans ?_ (by assumption)))⟩
            case measure => simp [intOf]; omega
        · obtain rfl : t = N := by omega
          obtain rfl : z = 0 := by have := HZ.out; omega
          go_wp2_with (go_at_call 24; refine (blocked_any _ _ _ _ _ _ _ _ _ _ HMq.out hN1).mono ?_; rintro e w9 ⟨⟨v9, rfl, ⟨ao9, cp9, rfl, hv9⟩⟩, hb⟩; obtain ⟨hc, hf⟩ := hb.facts; have hz := hb.size; (try simp only [World.size_alloc, World.size_drew] at hz); (try (have hcq := fun o => hc (w.heap.size) o (by (try simp only [World.size_alloc, World.size_drew]); omega))); (try (have hq : w.heap.size < w9.heap.size := by omega)))
          go_ret
          exact ⟨rfl, (HGr.out.trans hG).trans (by repeat (first | exact Grew.refl _ | assumption | refine Grew.drew ?_ | refine Grew.alloc ?_ _ | refine Grew.setCell ?_ (by (try simp only [World.size_alloc, World.size_drew]); omega) _ | refine Grew.trans ?_ (by assumption)))⟩
end Go.Proofs.YtbgbfljbjpbinaaDoor

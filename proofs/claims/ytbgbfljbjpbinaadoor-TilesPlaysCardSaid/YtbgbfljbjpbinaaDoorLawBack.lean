/- The walk of the law TilesBack: it answers true. Conditions: the sentinels' cells; the list's cells. -/
import Derived.Test.YtbgbfljbjpbinaaDoorLawSums
import Derived.Test.YtbgbfljbjpbinaaDoorMap5
import Derived.Deep.Fields
import Derived.Deep.Slices
namespace Go.Proofs.YtbgbfljbjpbinaaDoor
set_option linter.unusedSimpArgs false
set_option linter.unusedVariables false
open Go.RowKit

theorem drop_any (P C N : Nat) (W H S X Y b0 b1 b2 b3 : Int) (c : Nat → Int) (w : World) (a : Addr) (hg : w.cell? ⟨1, 0, none⟩ = some (.iface 130 (.pointer (some a)))) (hM : MapAt w P C N W H S X Y c) (h : gridB W H S X Y = true) (hN : W * H = N) (hc : ∀ k, k < N → 0 ≤ c k ∧ c k ≤ 1000000) (hany : anyB (fresh c (underN W H S X Y b0 b1 b2 b3)) N = false) :
    Calls Tryd.prog 29 #[.pointer (some ⟨P, 0, none⟩), .agg #[.int .i64 b0, .int .i64 b1, .int .i64 b2, .int .i64 b3]] w fun e w' => (∃ v, e = .returned (.tuple #[v, .nilIface]) ∧ NewInts w' v (passed (last c (underN W H S X Y b0 b1 b2 b3)) N) w.heap.size ∧ MapAt w' P C N W H S X Y (bump c (underN W H S X Y b0 b1 b2 b3) (-1) N)) ∧ Turn C w w' := by
  obtain ⟨_, _, _, _, fA⟩ := grid_facts h
  refine drop_yes P C N W H S X Y b0 b1 b2 b3 c _ w hM (by omega) hc (fun w1 g => ?_) hany
  have := under_new W H S X Y b0 b1 b2 b3 w1 a ((g.facts.1 _ _ (lt_of_cell hg)).trans hg)
  rw [underL, hN, Int.toNat_natCast] at this
  exact this

theorem u64_wrap (x : Int) : IntKind.u64.wrap x = x % 18446744073709551616 := by rfl
def one (b : Bool) : Int := if b then 1 else 0
theorem one_le (b : Bool) : 0 ≤ one b ∧ one b ≤ 1 := by cases b <;> decide
theorem total_add (h : Nat → Int) (a b : Nat) : total h (a + b) = total h a + total (fun k => h (a + k)) b := by
  induction b with
  | zero => simp [total]
  | succ b ih => rw [← Nat.add_assoc]; simp only [total, ih]; omega
theorem total_congr {g h : Nat → Int} {n : Nat} (e : ∀ k, k < n → g k = h k) : total g n = total h n := by
  induction n with
  | zero => rfl
  | succ n ih => simp only [total]; rw [ih fun k hk => e k (by omega), e n (by omega)]
theorem total_turn (g : Nat → Int) {n R : Nat} (hR : R < n) : total (fun s => g ((s + R) % n)) n = total g n := by
  obtain ⟨m, rfl⟩ : ∃ m, n = m + R := ⟨n - R, by omega⟩
  rw [total_add, show total g (m + R) = total g (R + m) by rw [Nat.add_comm], total_add g R m]
  have e1 : total (fun s => g ((s + R) % (m + R))) m = total (fun k => g (R + k)) m := total_congr fun k hk => by
    show g ((k + R) % (m + R)) = g (R + k)
    rw [Nat.mod_eq_of_lt (by omega), Nat.add_comm]
  have e2 : total (fun k => g ((m + k + R) % (m + R))) R = total g R := total_congr fun k hk => by
    show g ((m + k + R) % (m + R)) = g k
    rw [show m + k + R = k + (m + R) by omega, Nat.add_mod_right, Nat.mod_eq_of_lt (by omega)]
  rw [e1, e2]; omega
theorem total_mono {h : Nat → Int} (h0 : ∀ k, 0 ≤ h k) {i n : Nat} (hi : i ≤ n) : total h i ≤ total h n := by
  obtain ⟨d, rfl⟩ := Nat.exists_eq_add_of_le hi
  rw [total_add]
  have := (total_le (c := fun k => h (i + k)) (K := total (fun k => h (i + k)) d) (n := 0) fun k hk => by omega)
  have : 0 ≤ total (fun k => h (i + k)) d := by
    clear this
    generalize hh : (fun k => h (i + k)) = q
    have hq : ∀ k, 0 ≤ q k := fun k => by rw [← hh]; exact h0 _
    clear hh
    induction d with
    | zero => simp [total]
    | succ d ih => have := ih (by omega); have := hq d; simp only [total]; omega
  omega

set_option maxRecDepth 100000 in
set_option maxHeartbeats 8000000 in
theorem tilesBack_any (W H S X Y x : Int) (v : Option Addr) (n cap : Nat) (w : World) (a b : Addr) (hg : w.cell? ⟨1, 0, none⟩ = some (.iface 130 (.pointer (some a)))) (hform : w.cell? ⟨0, 0, none⟩ = some (.iface 130 (.pointer (some b)))) (hB : BoxesIn w v n) :
    Calls Tryd.prog 7 #[.agg #[.int .i64 W, .int .i64 H, .int .i64 S, .int .i64 X, .int .i64 Y], .slice v n cap, .int .i64 x] w fun e w' => e = .returned (.bool true) ∧ Grew w w' := by
  have HB : Hid (BoxesIn w v n) := hB
  clear hB
  cases hgr : gridB W H S X Y
  · by_cases hn : 40 < n
    · go_enter Tryd.func7, Tryd.ntmps7
      go_wp2_with (first | (go_at_call 13; refine (alive14_any _ a (((Grew.facts (W := w) (by repeat (first | exact Grew.refl _ | assumption | refine Grew.drew ?_ | refine Grew.alloc ?_ _ | refine Grew.setCell ?_ (by (try simp only [World.size_alloc, World.size_drew]); omega) _ | refine Grew.trans ?_ (by assumption)))).1 _ _ (lt_of_cell hg)).trans hg)).mono ?_; rintro e w1 ⟨rfl, hb⟩; obtain ⟨hc, hf⟩ := hb.facts; have hz := hb.size; (try simp only [World.size_alloc, World.size_drew] at hz); (try (have hcq := fun o => hc (w.heap.size) o (by (try simp only [World.size_alloc, World.size_drew]); omega))); (try (have hq : w.heap.size < w1.heap.size := by omega))) | (go_at_call 20; refine (tnew_no _ _ _ _ _ _ a b (((Grew.facts (W := w) (by repeat (first | exact Grew.refl _ | assumption | refine Grew.drew ?_ | refine Grew.alloc ?_ _ | refine Grew.setCell ?_ (by (try simp only [World.size_alloc, World.size_drew]); omega) _ | refine Grew.trans ?_ (by assumption)))).1 _ _ (lt_of_cell hg)).trans hg) (((Grew.facts (W := w) (by repeat (first | exact Grew.refl _ | assumption | refine Grew.drew ?_ | refine Grew.alloc ?_ _ | refine Grew.setCell ?_ (by (try simp only [World.size_alloc, World.size_drew]); omega) _ | refine Grew.trans ?_ (by assumption)))).1 _ _ (lt_of_cell hform)).trans hform) hgr).mono ?_; rintro e w2 ⟨rfl, hb⟩; obtain ⟨hc, hf⟩ := hb.facts; have hz := hb.size; (try simp only [World.size_alloc, World.size_drew] at hz); (try (have hcq := fun o => hc (w.heap.size) o (by (try simp only [World.size_alloc, World.size_drew]); omega))); (try (have hq : w.heap.size < w2.heap.size := by omega))) | (go_at_call 17; refine (tright_any _ _ _ _ _ _ a (((Grew.facts (W := w) (by repeat (first | exact Grew.refl _ | assumption | refine Grew.drew ?_ | refine Grew.alloc ?_ _ | refine Grew.setCell ?_ (by (try simp only [World.size_alloc, World.size_drew]); omega) _ | refine Grew.trans ?_ (by assumption)))).1 _ _ (lt_of_cell hg)).trans hg)).mono ?_; rintro e w3 ⟨rfl, hb⟩; obtain ⟨hc, hf⟩ := hb.facts; have hz := hb.size; (try simp only [World.size_alloc, World.size_drew] at hz); (try (have hcq := fun o => hc (w.heap.size) o (by (try simp only [World.size_alloc, World.size_drew]); omega))); (try (have hq : w.heap.size < w3.heap.size := by omega))))
      go_ret
      exact ⟨rfl, (by repeat (first | exact Grew.refl _ | assumption | refine Grew.drew ?_ | refine Grew.alloc ?_ _ | refine Grew.setCell ?_ (by (try simp only [World.size_alloc, World.size_drew]); omega) _ | refine Grew.trans ?_ (by assumption)))⟩
    · go_enter Tryd.func7, Tryd.ntmps7
      go_wp2_with (first | (go_at_call 13; refine (alive14_any _ a (((Grew.facts (W := w) (by repeat (first | exact Grew.refl _ | assumption | refine Grew.drew ?_ | refine Grew.alloc ?_ _ | refine Grew.setCell ?_ (by (try simp only [World.size_alloc, World.size_drew]); omega) _ | refine Grew.trans ?_ (by assumption)))).1 _ _ (lt_of_cell hg)).trans hg)).mono ?_; rintro e w1 ⟨rfl, hb⟩; obtain ⟨hc, hf⟩ := hb.facts; have hz := hb.size; (try simp only [World.size_alloc, World.size_drew] at hz); (try (have hcq := fun o => hc (w.heap.size) o (by (try simp only [World.size_alloc, World.size_drew]); omega))); (try (have hq : w.heap.size < w1.heap.size := by omega))) | (go_at_call 20; refine (tnew_no _ _ _ _ _ _ a b (((Grew.facts (W := w) (by repeat (first | exact Grew.refl _ | assumption | refine Grew.drew ?_ | refine Grew.alloc ?_ _ | refine Grew.setCell ?_ (by (try simp only [World.size_alloc, World.size_drew]); omega) _ | refine Grew.trans ?_ (by assumption)))).1 _ _ (lt_of_cell hg)).trans hg) (((Grew.facts (W := w) (by repeat (first | exact Grew.refl _ | assumption | refine Grew.drew ?_ | refine Grew.alloc ?_ _ | refine Grew.setCell ?_ (by (try simp only [World.size_alloc, World.size_drew]); omega) _ | refine Grew.trans ?_ (by assumption)))).1 _ _ (lt_of_cell hform)).trans hform) hgr).mono ?_; rintro e w2 ⟨rfl, hb⟩; obtain ⟨hc, hf⟩ := hb.facts; have hz := hb.size; (try simp only [World.size_alloc, World.size_drew] at hz); (try (have hcq := fun o => hc (w.heap.size) o (by (try simp only [World.size_alloc, World.size_drew]); omega))); (try (have hq : w.heap.size < w2.heap.size := by omega))) | (go_at_call 17; refine (tright_any _ _ _ _ _ _ a (((Grew.facts (W := w) (by repeat (first | exact Grew.refl _ | assumption | refine Grew.drew ?_ | refine Grew.alloc ?_ _ | refine Grew.setCell ?_ (by (try simp only [World.size_alloc, World.size_drew]); omega) _ | refine Grew.trans ?_ (by assumption)))).1 _ _ (lt_of_cell hg)).trans hg)).mono ?_; rintro e w3 ⟨rfl, hb⟩; obtain ⟨hc, hf⟩ := hb.facts; have hz := hb.size; (try simp only [World.size_alloc, World.size_drew] at hz); (try (have hcq := fun o => hc (w.heap.size) o (by (try simp only [World.size_alloc, World.size_drew]); omega))); (try (have hq : w.heap.size < w3.heap.size := by omega))))
      go_ret
      exact ⟨rfl, (by repeat (first | exact Grew.refl _ | assumption | refine Grew.drew ?_ | refine Grew.alloc ?_ _ | refine Grew.setCell ?_ (by (try simp only [World.size_alloc, World.size_drew]); omega) _ | refine Grew.trans ?_ (by assumption)))⟩
  obtain ⟨_, ⟨g1, g2, g3, g4, g5, g6⟩, _, _, fA⟩ := grid_facts hgr
  obtain ⟨N, hN⟩ : ∃ N : Nat, W * H = N := ⟨(W * H).toNat, by omega⟩
  have hN1 : N ≤ 1024 := by omega
  clear fA
  by_cases hn : 40 < n
  · go_enter Tryd.func7, Tryd.ntmps7
    go_wp2_with (first | (go_at_call 13; refine (alive14_any _ a (((Grew.facts (W := w) (by repeat (first | exact Grew.refl _ | assumption | refine Grew.drew ?_ | refine Grew.alloc ?_ _ | refine Grew.setCell ?_ (by (try simp only [World.size_alloc, World.size_drew]); omega) _ | refine Grew.trans ?_ (by assumption)))).1 _ _ (lt_of_cell hg)).trans hg)).mono ?_; rintro e w1 ⟨rfl, hb⟩; obtain ⟨hc, hf⟩ := hb.facts; have hz := hb.size; (try simp only [World.size_alloc, World.size_drew] at hz); (try (have hcq := fun o => hc (w.heap.size) o (by (try simp only [World.size_alloc, World.size_drew]); omega))); (try (have hq : w.heap.size < w1.heap.size := by omega))) | (go_at_call 20; refine (tnew_yes _ _ _ _ _ N _ a (((Grew.facts (W := w) (by repeat (first | exact Grew.refl _ | assumption | refine Grew.drew ?_ | refine Grew.alloc ?_ _ | refine Grew.setCell ?_ (by (try simp only [World.size_alloc, World.size_drew]); omega) _ | refine Grew.trans ?_ (by assumption)))).1 _ _ (lt_of_cell hg)).trans hg) hgr hN).mono ?_; rintro e w2 ⟨⟨P, C, rfl, hM, hP0, hC0⟩, hb⟩; obtain ⟨hc, hf⟩ := hb.facts; have hz := hb.size; (try simp only [World.size_alloc, World.size_drew] at hz); (try (have hcq := fun o => hc (w.heap.size) o (by (try simp only [World.size_alloc, World.size_drew]); omega))); (try (have hq : w.heap.size < w2.heap.size := by omega))))
    go_ret
    exact ⟨rfl, (by repeat (first | exact Grew.refl _ | assumption | refine Grew.drew ?_ | refine Grew.alloc ?_ _ | refine Grew.setCell ?_ (by (try simp only [World.size_alloc, World.size_drew]); omega) _ | refine Grew.trans ?_ (by assumption)))⟩
  go_enter Tryd.func7, Tryd.ntmps7
  go_wp2_with (first | (go_at_call 13; refine (alive14_any _ a (((Grew.facts (W := w) (by repeat (first | exact Grew.refl _ | assumption | refine Grew.drew ?_ | refine Grew.alloc ?_ _ | refine Grew.setCell ?_ (by (try simp only [World.size_alloc, World.size_drew]); omega) _ | refine Grew.trans ?_ (by assumption)))).1 _ _ (lt_of_cell hg)).trans hg)).mono ?_; rintro e w1 ⟨rfl, hb⟩; obtain ⟨hc, hf⟩ := hb.facts; have hz := hb.size; (try simp only [World.size_alloc, World.size_drew] at hz); (try (have hcq := fun o => hc (w.heap.size) o (by (try simp only [World.size_alloc, World.size_drew]); omega))); (try (have hq : w.heap.size < w1.heap.size := by omega))) | (go_at_call 20; refine (tnew_yes _ _ _ _ _ N _ a (((Grew.facts (W := w) (by repeat (first | exact Grew.refl _ | assumption | refine Grew.drew ?_ | refine Grew.alloc ?_ _ | refine Grew.setCell ?_ (by (try simp only [World.size_alloc, World.size_drew]); omega) _ | refine Grew.trans ?_ (by assumption)))).1 _ _ (lt_of_cell hg)).trans hg) hgr hN).mono ?_; rintro e w2 ⟨⟨P, C, rfl, hM, hP0, hC0⟩, hb⟩; obtain ⟨hc, hf⟩ := hb.facts; have hz := hb.size; (try simp only [World.size_alloc, World.size_drew] at hz); (try (have hcq := fun o => hc (w.heap.size) o (by (try simp only [World.size_alloc, World.size_drew]); omega))); (try (have hq : w.heap.size < w2.heap.size := by omega))))
  have hGw : Grew w w2 := (by repeat (first | exact Grew.refl _ | assumption | refine Grew.drew ?_ | refine Grew.alloc ?_ _ | refine Grew.setCell ?_ (by (try simp only [World.size_alloc, World.size_drew]); omega) _ | refine Grew.trans ?_ (by assumption)))
  have hzA := hGw.size
  have hzw : w.heap.size < w1.heap.size := by assumption
  have e0 : w2.cell? ⟨w.heap.size, 0, none⟩ = some (.int .i64 W) := by simp [go_sem, *]
  have e1 : w2.cell? ⟨w.heap.size, 1, none⟩ = some (.int .i64 H) := by simp [go_sem, *]
  have e2 : w2.cell? ⟨w.heap.size, 2, none⟩ = some (.int .i64 S) := by simp [go_sem, *]
  have e3 : w2.cell? ⟨w.heap.size, 3, none⟩ = some (.int .i64 X) := by simp [go_sem, *]
  have e4 : w2.cell? ⟨w.heap.size, 4, none⟩ = some (.int .i64 Y) := by simp [go_sem, *]
  have HE : Hid (∀ wr, Turn C w2 wr → wr.cell? ⟨w.heap.size, 0, none⟩ = some (.int .i64 W) ∧ wr.cell? ⟨w.heap.size, 1, none⟩ = some (.int .i64 H) ∧ wr.cell? ⟨w.heap.size, 2, none⟩ = some (.int .i64 S) ∧ wr.cell? ⟨w.heap.size, 3, none⟩ = some (.int .i64 X) ∧ wr.cell? ⟨w.heap.size, 4, none⟩ = some (.int .i64 Y) ∧ wr.cell? ⟨1, 0, none⟩ = some (.iface 130 (.pointer (some a)))) := fun wr h => by
    have q : w.heap.size < w2.heap.size := by omega
    have r := lt_of_cell hg
    exact ⟨(h.facts.1 _ _ q (by omega)).trans e0, (h.facts.1 _ _ q (by omega)).trans e1, (h.facts.1 _ _ q (by omega)).trans e2, (h.facts.1 _ _ q (by omega)).trans e3, (h.facts.1 _ _ q (by omega)).trans e4, ((h.facts.1 _ _ (by omega) (by omega)).trans (hGw.facts.1 _ _ r)).trans hg⟩
  have HX : Hid (n = 0 ∨ ∃ (bb off : Nat) (F : Nat → Nat → Bool), v = some ⟨bb, off, none⟩ ∧ ∀ i, i < n → ∃ b0 b1 b2 b3 : Int, F i = underN W H S X Y b0 b1 b2 b3 ∧ ∀ wr, Turn C w2 wr →
  wr.cell? ⟨bb, off + i * 4, none⟩ = some (.int .i64 b0) ∧ wr.cell? ⟨bb, off + i * 4 + 1, none⟩ = some (.int .i64 b1) ∧ wr.cell? ⟨bb, off + i * 4 + 2, none⟩ = some (.int .i64 b2) ∧ wr.cell? ⟨bb, off + i * 4 + 3, none⟩ = some (.int .i64 b3)) := by
    refine HB.out.imp id fun ⟨bb, off, hv, hbb, hc⟩ => ?_
    have key : ∀ i, i < n → ∃ f : Nat → Bool, ∃ b0 b1 b2 b3 : Int, f = underN W H S X Y b0 b1 b2 b3 ∧ ∀ wr, Turn C w2 wr →
        wr.cell? ⟨bb, off + i * 4, none⟩ = some (.int .i64 b0) ∧ wr.cell? ⟨bb, off + i * 4 + 1, none⟩ = some (.int .i64 b1) ∧ wr.cell? ⟨bb, off + i * 4 + 2, none⟩ = some (.int .i64 b2) ∧ wr.cell? ⟨bb, off + i * 4 + 3, none⟩ = some (.int .i64 b3) := by
      intro i hi
      obtain ⟨b0, b1, b2, b3, k0, k1, k2, k3⟩ := hc i hi
      refine ⟨_, b0, b1, b2, b3, rfl, fun wr h => ?_⟩
      have q : ∀ o, wr.cell? ⟨bb, o, none⟩ = w.cell? ⟨bb, o, none⟩ := fun o => (h.facts.1 _ _ (by omega) (by omega)).trans (hGw.facts.1 _ _ hbb)
      exact ⟨(q _).trans k0, (q _).trans k1, (q _).trans k2, (q _).trans k3⟩
    obtain ⟨F, hF⟩ := Deep.choose_lt key
    exact ⟨bb, off, F, hv, hF⟩
  have HM0 : Hid (MapAt w2 P C N W H S X Y (fun _ => 0)) := hM
  clear e0 e1 e2 e3 e4 hM
  by_cases hn0 : n = 0
  · subst hn0
    clear HX
    refine wp_loop_rounds 1 ?_
    rw [rounds_succ]
    go_wp2_with fail
    refine wp_loop_rounds 1 ?_
    rw [rounds_succ]
    have hnil : passed (stood fun _ => 0) N = [] := passed_none fun k _ => by simp [stood]
    have HBl : Hid (∀ w9, MapAt w9 P C N W H S X Y (fun _ => 0) → Calls Tryd.prog 24 #[.pointer (some ⟨P, 0, none⟩)] w9 fun e w' => (∃ v, e = .returned v ∧ IntsAt w' v []) ∧ Grew w9 w') := fun w9 h9 => by
      have := blocked_any P C N W H S X Y (fun _ => 0) w9 h9 hN1
      rw [hnil] at this; exact this
    go_wp2_with (go_at_call 24; refine (HBl.out _ (HM0.out.grew (by repeat (first | exact Grew.refl _ | assumption | refine Grew.drew ?_ | refine Grew.alloc ?_ _ | refine Grew.setCell ?_ (by (try simp only [World.size_alloc, World.size_drew]); omega) _ | refine Grew.trans ?_ (by assumption))))).mono ?_; rintro e w9 ⟨⟨v9, rfl, ⟨ao9, cp9, rfl, hv9⟩⟩, hb⟩; obtain ⟨hc, hf⟩ := hb.facts; have hz := hb.size; (try simp only [World.size_alloc, World.size_drew] at hz); (try (have hcq := fun o => hc (w.heap.size) o (by (try simp only [World.size_alloc, World.size_drew]); omega))); (try (have hq : w.heap.size < w9.heap.size := by omega)))
    go_ret
    exact ⟨rfl, (by repeat (first | exact Grew.refl _ | assumption | refine Grew.drew ?_ | refine Grew.alloc ?_ _ | refine Grew.setCell ?_ (by (try simp only [World.size_alloc, World.size_drew]); omega) _ | refine Grew.trans ?_ (by assumption)))⟩
  obtain ⟨bb, off, F, rfl, hF⟩ : ∃ (bb off : Nat) (F : Nat → Nat → Bool), v = some ⟨bb, off, none⟩ ∧ ∀ i, i < n → ∃ b0 b1 b2 b3 : Int, F i = underN W H S X Y b0 b1 b2 b3 ∧ ∀ wr, Turn C w2 wr →
      wr.cell? ⟨bb, off + i * 4, none⟩ = some (.int .i64 b0) ∧ wr.cell? ⟨bb, off + i * 4 + 1, none⟩ = some (.int .i64 b1) ∧ wr.cell? ⟨bb, off + i * 4 + 2, none⟩ = some (.int .i64 b2) ∧ wr.cell? ⟨bb, off + i * 4 + 3, none⟩ = some (.int .i64 b3) := HX.out.resolve_left hn0
  have HF : Hid _ := hF
  clear hF HX
  go_loopw [38] (fun i wr => ∃ k : Nat, k ≤ n ∧ i = .int .i64 k ∧ MapAt wr P C N W H S X Y (fun t => total (fun j => one (F j t)) k) ∧ Turn C w2 wr) (fun i wr => n - (intOf i).toNat)
  case atStart => exact ⟨0, Nat.zero_le _, by simp, HM0.out.congr fun k _ => by simp [total], Turn.refl _ _⟩
  case round =>
    obtain ⟨k, hk, rfl, hMr, hT⟩ := hrel
    have HR : Hid (MapAt wr P C N W H S X Y (fun t => total (fun j => one (F j t)) k)) := hMr
    have HT : Hid (Turn C w2 wr) := hT
    obtain ⟨z0, z1, z2, z3, z4, z5⟩ := HE.out wr hT
    have hzr : w.heap.size < wr.heap.size := World.block_lt_of_cell? _ _ z0
    have hPC : P < wr.heap.size ∧ C < wr.heap.size := ⟨hMr.hP, hMr.hC⟩
    have hcb : ∀ t, 0 ≤ total (fun j => one (F j t)) k ∧ total (fun j => one (F j t)) k ≤ 1 * k := fun t => total_le fun j _ => one_le _
    have HCB : Hid (∀ t, 0 ≤ total (fun j => one (F j t)) k ∧ total (fun j => one (F j t)) k ≤ 1 * k) := hcb
    clear hMr hT hcb
    by_cases hlt : k < n
    · obtain ⟨b0, b1, b2, b3, hFk, hcells⟩ := HF.out k hlt
      obtain ⟨y0, y1, y2, y3⟩ := hcells wr HT.out
      have HFk : Hid (F k = underN W H S X Y b0 b1 b2 b3) := hFk
      clear hcells hFk
      go_wp2_with fail
      go_at_call 21
      refine (put_any P C N W H S X Y b0 b1 b2 b3 _ _ a (((Grew.facts (W := wr) (by repeat (first | exact Grew.refl _ | assumption | refine Grew.drew ?_ | refine Grew.alloc ?_ _ | refine Grew.setCell ?_ (by (try simp only [World.size_alloc, World.size_drew]); omega) _ | refine Grew.trans ?_ (by assumption)))).1 _ _ (lt_of_cell z5)).trans z5) (HR.out.grew (by repeat (first | exact Grew.refl _ | assumption | refine Grew.drew ?_ | refine Grew.alloc ?_ _ | refine Grew.setCell ?_ (by (try simp only [World.size_alloc, World.size_drew]); omega) _ | refine Grew.trans ?_ (by assumption)))) hgr hN (fun j hj => by have := HCB.out j; omega)).mono ?_
      rintro e w5 ⟨⟨v5, rfl, hv5, hM5⟩, hT5⟩
      have hT6 : Hid (Turn C w2 w5) := (HT.out.more (by repeat (first | exact Grew.refl _ | assumption | refine Grew.drew ?_ | refine Grew.alloc ?_ _ | refine Grew.setCell ?_ (by (try simp only [World.size_alloc, World.size_drew]); omega) _ | refine Grew.trans ?_ (by assumption)))).trans hT5
      have hM6 : Hid (MapAt w5 P C N W H S X Y (fun t => total (fun j => one (F j t)) (k + 1))) := hM5.congr fun t ht => by
        simp only [bump, total, HFk.out, show decide (t < N) = true by simpa using ht, Bool.and_true]; rfl
      clear hv5 hM5 hT5
      go_wp2_with fail
      go_roundw
      case rel => exact ⟨k + 1, by omega, by go_num, hM6.out, hT6.out⟩
      case measure => simp [intOf]; omega
    · obtain rfl : k = n := by omega
      have hk0 : (k : Int) ≠ 0 := by omega
      have hkn : k ≤ 40 := by omega
      obtain ⟨R, hR, eR⟩ : ∃ R : Nat, R < k ∧ (IntKind.u64.wrap x).tmod (k : Int) = (R : Int) := by
        have hu : 0 ≤ IntKind.u64.wrap x := by rw [u64_wrap]; exact Int.emod_nonneg _ (by decide)
        have h0 := Int.emod_nonneg (IntKind.u64.wrap x) hk0
        have h1 := Int.emod_lt_of_pos (IntKind.u64.wrap x) (show (0 : Int) < k by omega)
        exact ⟨((IntKind.u64.wrap x) % (k : Int)).toNat, by omega, by rw [Int.tmod_eq_emod_of_nonneg hu]; omega⟩
      have HTT : Hid (∀ t, total (fun s => one (F ((s + R) % k) t)) k = total (fun j => one (F j t)) k) := fun t => total_turn (fun j => one (F j t)) hR
      have HGr : Hid (Turn C w2 wr) := HT.out
      go_wp2_with fail
      obtain ⟨wo, rfl⟩ : ∃ wo : World, wo = wr := ⟨_, rfl⟩
      go_loopw [48] (fun i wr => ∃ q : Nat, q ≤ k ∧ i = .int .i64 q ∧ MapAt wr P C N W H S X Y (fun t => total (fun j => one (F j t)) k - total (fun s => one (F ((s + R) % k) t)) q) ∧ Turn C w2 wr) (fun i wr => k - (intOf i).toNat)
      case atStart => exact ⟨0, Nat.zero_le _, by simp, (HR.out.congr fun t _ => by simp [total]).grew (by repeat (first | exact Grew.refl _ | assumption | refine Grew.drew ?_ | refine Grew.alloc ?_ _ | refine Grew.setCell ?_ (by (try simp only [World.size_alloc, World.size_drew]); omega) _ | refine Grew.trans ?_ (by assumption))), HT.out.more (by repeat (first | exact Grew.refl _ | assumption | refine Grew.drew ?_ | refine Grew.alloc ?_ _ | refine Grew.setCell ?_ (by (try simp only [World.size_alloc, World.size_drew]); omega) _ | refine Grew.trans ?_ (by assumption)))⟩
      case round =>
        obtain ⟨q, hq, rfl, hMr, hT2⟩ := hrel
        have HR2 : Hid (MapAt wr P C N W H S X Y (fun t => total (fun j => one (F j t)) k - total (fun s => one (F ((s + R) % k) t)) q)) := hMr
        have HT2 : Hid (Turn C w2 wr) := hT2
        obtain ⟨y0, y1, y2, y3, y4, y5⟩ := HE.out wr hT2
        have hzq : w.heap.size < wr.heap.size := World.block_lt_of_cell? _ _ y0
        clear hMr hT2 z0 z1 z2 z3 z4 z5 y0 y1 y2 y3 y4
        by_cases hlt2 : q < k
        · obtain ⟨J, hJ⟩ : ∃ J, J = (q + R) % k := ⟨_, rfl⟩
          have hJk : J < k := by rw [hJ]; exact Nat.mod_lt _ (by omega)
          have eJ : ((q : Int) + (R : Int)).tmod (k : Int) = (J : Int) := by
            rw [Int.tmod_eq_emod_of_nonneg (by omega), hJ]; push_cast; rfl
          obtain ⟨b0, b1, b2, b3, hFk, hcells⟩ := HF.out J hJk
          obtain ⟨k0, k1, k2, k3⟩ := hcells wr HT2.out
          have HFk : Hid (F J = underN W H S X Y b0 b1 b2 b3) := hFk
          have HJ : Hid (J = (q + R) % k) := hJ
          have hrem : ∀ t, total (fun s => one (F ((s + R) % k) t)) q + one (F J t) ≤ total (fun j => one (F j t)) k := fun t => by
            have h1 := total_mono (h := fun s => one (F ((s + R) % k) t)) (fun s => (one_le _).1) (show q + 1 ≤ k by omega)
            rw [HTT.out t] at h1
            simp only [total] at h1
            rw [← HJ.out] at h1
            exact h1
          have HREM : Hid (∀ t, total (fun s => one (F ((s + R) % k) t)) q + one (F J t) ≤ total (fun j => one (F j t)) k) := hrem
          have hany : anyB (fresh (fun t => total (fun j => one (F j t)) k - total (fun s => one (F ((s + R) % k) t)) q) (underN W H S X Y b0 b1 b2 b3)) N = false := anyB_no fun t ht => by
            rw [← HFk.out]
            show (F J t && decide (total (fun j => one (F j t)) k - total (fun s => one (F ((s + R) % k) t)) q = 0)) = false
            cases hf : F J t
            · rfl
            · have h1 := hrem t
              rw [hf] at h1
              have h2 : total (fun s => one (F ((s + R) % k) t)) q + 1 ≤ total (fun j => one (F j t)) k := h1
              rw [Bool.true_and]
              exact decide_eq_false (by omega)
          have HANY : Hid (anyB (fresh (fun t => total (fun j => one (F j t)) k - total (fun s => one (F ((s + R) % k) t)) q) (underN W H S X Y b0 b1 b2 b3)) N = false) := hany
          have HBD : Hid (∀ t, t < N → 0 ≤ total (fun j => one (F j t)) k - total (fun s => one (F ((s + R) % k) t)) q ∧ total (fun j => one (F j t)) k - total (fun s => one (F ((s + R) % k) t)) q ≤ 1000000) := fun t ht => by
            have h1 := hrem t
            have h2 := (one_le (F J t)).1
            have h3 := HCB.out t
            have h4 := total_le (c := fun s => one (F ((s + R) % k) t)) (K := 1) (n := q) fun j _ => one_le _
            omega
          clear hcells hFk hJ hrem hany
          go_wp2_with fail
          go_at_call 29
          refine (drop_any P C N W H S X Y b0 b1 b2 b3 _ _ a (((Grew.facts (W := wr) (by repeat (first | exact Grew.refl _ | assumption | refine Grew.drew ?_ | refine Grew.alloc ?_ _ | refine Grew.setCell ?_ (by (try simp only [World.size_alloc, World.size_drew]); omega) _ | refine Grew.trans ?_ (by assumption)))).1 _ _ (lt_of_cell y5)).trans y5) (HR2.out.grew (by repeat (first | exact Grew.refl _ | assumption | refine Grew.drew ?_ | refine Grew.alloc ?_ _ | refine Grew.setCell ?_ (by (try simp only [World.size_alloc, World.size_drew]); omega) _ | refine Grew.trans ?_ (by assumption)))) hgr hN HBD.out HANY.out).mono ?_
          rintro e w5 ⟨⟨v5, rfl, hv5, hM5⟩, hT5⟩
          have hT6 : Hid (Turn C w2 w5) := (HT2.out.more (by repeat (first | exact Grew.refl _ | assumption | refine Grew.drew ?_ | refine Grew.alloc ?_ _ | refine Grew.setCell ?_ (by (try simp only [World.size_alloc, World.size_drew]); omega) _ | refine Grew.trans ?_ (by assumption)))).trans hT5
          have hM6 : Hid (MapAt w5 P C N W H S X Y (fun t => total (fun j => one (F j t)) k - total (fun s => one (F ((s + R) % k) t)) (q + 1))) := hM5.congr fun t ht => by
            simp only [bump, total, ← HFk.out, ← HJ.out, show decide (t < N) = true by simpa using ht, Bool.and_true]
            cases F J t <;> simp [one] <;> omega
          clear hv5 hM5 hT5
          go_wp2_with fail
          go_roundw
          case rel => exact ⟨q + 1, by omega, by go_num, hM6.out, hT6.out⟩
          case measure => simp [intOf]; omega
        · obtain rfl : q = k := by omega
          have hnil : passed (stood fun t => total (fun j => one (F j t)) q - total (fun s => one (F ((s + R) % q) t)) q) N = [] := passed_none fun t _ => by simp [stood, HTT.out t]
          have HBl : Hid (∀ w9, MapAt w9 P C N W H S X Y (fun t => total (fun j => one (F j t)) q - total (fun s => one (F ((s + R) % q) t)) q) → Calls Tryd.prog 24 #[.pointer (some ⟨P, 0, none⟩)] w9 fun e w' => (∃ v, e = .returned v ∧ IntsAt w' v []) ∧ Grew w9 w') := fun w9 h9 => by
            have := blocked_any P C N W H S X Y _ w9 h9 hN1
            rw [hnil] at this; exact this
          have HG2 : Hid (Grew w wr) := HT2.out.grew hGw (by omega)
          clear hnil
          go_wp2_with (go_at_call 24; refine (HBl.out _ (HR2.out.grew (by repeat (first | exact Grew.refl _ | assumption | refine Grew.drew ?_ | refine Grew.alloc ?_ _ | refine Grew.setCell ?_ (by (try simp only [World.size_alloc, World.size_drew]); omega) _ | refine Grew.trans ?_ (by assumption))))).mono ?_; rintro e w9 ⟨⟨v9, rfl, ⟨ao9, cp9, rfl, hv9⟩⟩, hb⟩; obtain ⟨hc, hf⟩ := hb.facts; have hz := hb.size; (try simp only [World.size_alloc, World.size_drew] at hz); (try (have hcq := fun o => hc (w.heap.size) o (by (try simp only [World.size_alloc, World.size_drew]); omega))); (try (have hq : w.heap.size < w9.heap.size := by omega)))
          go_ret
          exact ⟨rfl, HG2.out.trans (by repeat (first | exact Grew.refl _ | assumption | refine Grew.drew ?_ | refine Grew.alloc ?_ _ | refine Grew.setCell ?_ (by (try simp only [World.size_alloc, World.size_drew]); omega) _ | refine Grew.trans ?_ (by assumption)))⟩
end Go.Proofs.YtbgbfljbjpbinaaDoor

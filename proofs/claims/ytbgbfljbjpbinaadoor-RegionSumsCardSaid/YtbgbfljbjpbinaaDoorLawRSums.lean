/- The walk of the law RegionSums: it answers true. Conditions: the sentinels' cells; the list's cells. -/
import Derived.Test.YtbgbfljbjpbinaaDoorSent
import Derived.Test.YtbgbfljbjpbinaaDoorReg18
namespace Go.Proofs.YtbgbfljbjpbinaaDoor
set_option linter.unusedSimpArgs false
set_option linter.unusedVariables false
open Go.RowKit Go.Maps

set_option maxRecDepth 100000 in
set_option maxHeartbeats 8000000 in
theorem regionSums_early (W H S X Y : Int) (v : Option Addr) (n cap : Nat) (w : World) (a f b s : Addr) (hE : Sent w a f b s) (h : gridB W H S X Y = false) :
    Calls Tryd.prog 11 #[.agg #[.int .i64 W, .int .i64 H, .int .i64 S, .int .i64 X, .int .i64 Y], .slice v n cap] w fun e w' => e = .returned (.bool true) ∧ Grew w w' := by
  have HE : Hid (∀ wr, Grew w wr → Sent wr a f b s) := fun wr g => hE.grew g
  clear hE
  go_enter Tryd.func11, Tryd.ntmps11
  go_wp2_with (first | (go_at_call 30; refine (alive15_any _ a b s (HE.out _ (by repeat (first | exact Grew.refl _ | assumption | refine Grew.drew ?_ | refine Grew.alloc ?_ _ | refine Grew.setCell ?_ (by (try simp only [World.size_alloc, World.size_drew]); omega) _ | refine Grew.trans ?_ (by assumption)))).range (HE.out _ (by repeat (first | exact Grew.refl _ | assumption | refine Grew.drew ?_ | refine Grew.alloc ?_ _ | refine Grew.setCell ?_ (by (try simp only [World.size_alloc, World.size_drew]); omega) _ | refine Grew.trans ?_ (by assumption)))).blocked (HE.out _ (by repeat (first | exact Grew.refl _ | assumption | refine Grew.drew ?_ | refine Grew.alloc ?_ _ | refine Grew.setCell ?_ (by (try simp only [World.size_alloc, World.size_drew]); omega) _ | refine Grew.trans ?_ (by assumption)))).state).mono ?_; rintro e w1 ⟨rfl, hb⟩; obtain ⟨hc, hf⟩ := hb.facts; have hz := hb.size; (try simp only [World.size_alloc, World.size_drew] at hz); (try (have hcq := fun o => hc (w.heap.size) o (by (try simp only [World.size_alloc, World.size_drew]); omega))); (try (have hq : w.heap.size < w1.heap.size := by omega))) | (go_at_call 31; refine (rgnew_no _ _ _ _ _ _ a f (HE.out _ (by repeat (first | exact Grew.refl _ | assumption | refine Grew.drew ?_ | refine Grew.alloc ?_ _ | refine Grew.setCell ?_ (by (try simp only [World.size_alloc, World.size_drew]); omega) _ | refine Grew.trans ?_ (by assumption)))).range (HE.out _ (by repeat (first | exact Grew.refl _ | assumption | refine Grew.drew ?_ | refine Grew.alloc ?_ _ | refine Grew.setCell ?_ (by (try simp only [World.size_alloc, World.size_drew]); omega) _ | refine Grew.trans ?_ (by assumption)))).form h).mono ?_; rintro e w2 ⟨rfl, hb⟩; obtain ⟨hc, hf⟩ := hb.facts; have hz := hb.size; (try simp only [World.size_alloc, World.size_drew] at hz); (try (have hcq := fun o => hc (w.heap.size) o (by (try simp only [World.size_alloc, World.size_drew]); omega))); (try (have hq : w.heap.size < w2.heap.size := by omega))))
  go_ret
  exact ⟨rfl, (by repeat (first | exact Grew.refl _ | assumption | refine Grew.drew ?_ | refine Grew.alloc ?_ _ | refine Grew.setCell ?_ (by (try simp only [World.size_alloc, World.size_drew]); omega) _ | refine Grew.trans ?_ (by assumption)))⟩
set_option maxRecDepth 100000 in
set_option maxHeartbeats 8000000 in
theorem regionSums_long (W H : Nat) (S X Y : Int) (v : Option Addr) (n cap : Nat) (w : World) (a f b s : Addr) (hE : Sent w a f b s) (h : gridB W H S X Y = true) (hn : 200 < n) :
    Calls Tryd.prog 11 #[.agg #[.int .i64 W, .int .i64 H, .int .i64 S, .int .i64 X, .int .i64 Y], .slice v n cap] w fun e w' => e = .returned (.bool true) ∧ Grew w w' := by
  have HE : Hid (∀ wr, Grew w wr → Sent wr a f b s) := fun wr g => hE.grew g
  obtain ⟨N, hN⟩ : ∃ N : Nat, N = W * H := ⟨_, rfl⟩
  have HNW : Hid (N = W * H) := hN
  clear hE hN
  go_enter Tryd.func11, Tryd.ntmps11
  go_wp2_with (first | (go_at_call 30; refine (alive15_any _ a b s (HE.out _ (by repeat (first | exact Grew.refl _ | assumption | refine Grew.drew ?_ | refine Grew.alloc ?_ _ | refine Grew.setCell ?_ (by (try simp only [World.size_alloc, World.size_drew]); omega) _ | refine Grew.trans ?_ (by assumption)))).range (HE.out _ (by repeat (first | exact Grew.refl _ | assumption | refine Grew.drew ?_ | refine Grew.alloc ?_ _ | refine Grew.setCell ?_ (by (try simp only [World.size_alloc, World.size_drew]); omega) _ | refine Grew.trans ?_ (by assumption)))).blocked (HE.out _ (by repeat (first | exact Grew.refl _ | assumption | refine Grew.drew ?_ | refine Grew.alloc ?_ _ | refine Grew.setCell ?_ (by (try simp only [World.size_alloc, World.size_drew]); omega) _ | refine Grew.trans ?_ (by assumption)))).state).mono ?_; rintro e w1 ⟨rfl, hb⟩; obtain ⟨hc, hf⟩ := hb.facts; have hz := hb.size; (try simp only [World.size_alloc, World.size_drew] at hz); (try (have hcq := fun o => hc (w.heap.size) o (by (try simp only [World.size_alloc, World.size_drew]); omega))); (try (have hq : w.heap.size < w1.heap.size := by omega))) | (go_at_call 31; refine (rgnew_yes W H N S X Y _ a (HE.out _ (by repeat (first | exact Grew.refl _ | assumption | refine Grew.drew ?_ | refine Grew.alloc ?_ _ | refine Grew.setCell ?_ (by (try simp only [World.size_alloc, World.size_drew]); omega) _ | refine Grew.trans ?_ (by assumption)))).range h HNW.out).mono ?_; rintro e w2 ⟨⟨P, L, M, rfl, hR1, hS1, hP0, hL0, hM0⟩, hb⟩; obtain ⟨hc, hf⟩ := hb.facts; have hz := hb.size; (try simp only [World.size_alloc, World.size_drew] at hz); (try (have hcq := fun o => hc (w.heap.size) o (by (try simp only [World.size_alloc, World.size_drew]); omega))); (try (have hq : w.heap.size < w2.heap.size := by omega))))
  go_ret
  exact ⟨rfl, (by repeat (first | exact Grew.refl _ | assumption | refine Grew.drew ?_ | refine Grew.alloc ?_ _ | refine Grew.setCell ?_ (by (try simp only [World.size_alloc, World.size_drew]); omega) _ | refine Grew.trans ?_ (by assumption)))⟩

/-- How many of the labels below k stand so far. -/
theorem sums_step {W H N k : Nat} {fr : Nat → Bool} {lab : Nat → Int} (hC : Canon W N fr lab) (hW : 1 ≤ W) (hN : N = W * H) (hk : k < N) :
    (passed (fun j => decide (lab j ≠ -1) && decide (lab j < ((k + 1 : Nat) : Int))) N).length = (passed (fun j => decide (lab j ≠ -1) && decide (lab j < (k : Int))) N).length + (if lab k = (k : Int) then cnt N lab k else 0) := by
  have h1 := plen_or (f := fun j => decide (lab j ≠ -1) && decide (lab j < (k : Int))) (g := fun j => decide (lab j = (k : Int))) (N := N) fun j hj hb => by
    simp at hb; simp; omega
  have h2 : (passed (fun j => decide (lab j ≠ -1) && decide (lab j < ((k + 1 : Nat) : Int))) N).length = (passed (fun j => (decide (lab j ≠ -1) && decide (lab j < (k : Int))) || decide (lab j = (k : Int))) N).length := plen_congr fun j hj => by
    rw [Bool.eq_iff_iff]
    simp only [Bool.or_eq_true, Bool.and_eq_true, decide_eq_true_eq]
    push_cast
    omega
  rw [h2, h1]
  by_cases e : lab k = (k : Int)
  · rw [if_pos e]; rfl
  · rw [if_neg e]
    have : (passed (fun j => decide (lab j = (k : Int))) N) = [] := passed_none fun j hj => by
      have : lab j ≠ (k : Int) := fun e2 => by
        obtain ⟨m, em, _, _, e3, _⟩ := hC.self hW hN hj (by omega)
        obtain rfl : m = k := by omega
        exact e e3
      simp [this]
    rw [this]; rfl
theorem plen_succ (f : Nat → Bool) (k : Nat) : (passed f (k + 1)).length = (passed f k).length + (if f k = true then 1 else 0) := by
  cases h : f k
  · rw [passed_miss h]; simp
  · rw [passed_hit h]; simp

set_option maxRecDepth 100000 in
set_option maxHeartbeats 8000000 in
theorem regionSums_any (W H : Nat) (S X Y : Int) (v : Option Addr) (n cap : Nat) (w : World) (a f b s : Addr) (hE : Sent w a f b s) (hI : IntsIn w v n cap) (h : gridB W H S X Y = true) (hn : n ≤ 200) :
    Calls Tryd.prog 11 #[.agg #[.int .i64 W, .int .i64 H, .int .i64 S, .int .i64 X, .int .i64 Y], .slice v n cap] w fun e w' => e = .returned (.bool true) ∧ Grew w w' := by
  have HE : Hid (∀ wr, Grew w wr → Sent wr a f b s) := fun wr g => hE.grew g
  have HI : Hid (IntsIn w v n cap) := hI
  obtain ⟨_, ⟨g1, g2, g3, g4, g5, g6⟩, _, _, fA⟩ := grid_facts h
  obtain ⟨N, hN⟩ : ∃ N : Nat, N = W * H := ⟨_, rfl⟩
  have hNi : (W : Int) * (H : Int) = (N : Int) := by rw [hN]; push_cast; rfl
  have hN1 : N ≤ 1024 := by omega
  have hN0 : 0 < N := by omega
  have HNW : Hid (N = W * H) := hN
  have hNn : (N : Int) ≠ 0 := by omega
  have hW1 : 1 ≤ W ∧ W ≤ 32 := by omega
  clear hE hI fA hN
  go_enter Tryd.func11, Tryd.ntmps11
  go_wp2_with fail
  (go_at_call 30; refine (alive15_any _ a b s (HE.out _ (by repeat (first | exact Grew.refl _ | assumption | refine Grew.drew ?_ | refine Grew.alloc ?_ _ | refine Grew.setCell ?_ (by (try simp only [World.size_alloc, World.size_drew]); omega) _ | refine Grew.trans ?_ (by assumption)))).range (HE.out _ (by repeat (first | exact Grew.refl _ | assumption | refine Grew.drew ?_ | refine Grew.alloc ?_ _ | refine Grew.setCell ?_ (by (try simp only [World.size_alloc, World.size_drew]); omega) _ | refine Grew.trans ?_ (by assumption)))).blocked (HE.out _ (by repeat (first | exact Grew.refl _ | assumption | refine Grew.drew ?_ | refine Grew.alloc ?_ _ | refine Grew.setCell ?_ (by (try simp only [World.size_alloc, World.size_drew]); omega) _ | refine Grew.trans ?_ (by assumption)))).state).mono ?_; rintro e w1 ⟨rfl, hb⟩; obtain ⟨hc, hf⟩ := hb.facts; have hz := hb.size; (try simp only [World.size_alloc, World.size_drew] at hz); (try (have hcq := fun o => hc (w.heap.size) o (by (try simp only [World.size_alloc, World.size_drew]); omega))); (try (have hq : w.heap.size < w1.heap.size := by omega)))
  have hGw1 : Grew w w1 := (by repeat (first | exact Grew.refl _ | assumption | refine Grew.drew ?_ | refine Grew.alloc ?_ _ | refine Grew.setCell ?_ (by (try simp only [World.size_alloc, World.size_drew]); omega) _ | refine Grew.trans ?_ (by assumption)))
  have hzw : w.heap.size < w1.heap.size := by assumption
  have e0 : w1.cell? ⟨w.heap.size, 0, none⟩ = some (.int .i64 W) := by simp [go_sem, *]
  have e1 : w1.cell? ⟨w.heap.size, 1, none⟩ = some (.int .i64 H) := by simp [go_sem, *]
  have HGD : Hid (w1.cell? ⟨w.heap.size, 0, none⟩ = some (.int .i64 W) ∧ w1.cell? ⟨w.heap.size, 1, none⟩ = some (.int .i64 H)) := ⟨e0, e1⟩
  clear e0 e1
  go_wp2_with (go_at_call 31; refine (rgnew_yes W H N S X Y _ a (HE.out _ (hGw1.trans (by repeat (first | exact Grew.refl _ | assumption | refine Grew.drew ?_ | refine Grew.alloc ?_ _ | refine Grew.setCell ?_ (by (try simp only [World.size_alloc, World.size_drew]); omega) _ | refine Grew.trans ?_ (by assumption))))).range h HNW.out).mono ?_; rintro e w2 ⟨⟨P, L, M, rfl, hR1, hS1, hP0, hL0, hM0⟩, hb⟩; obtain ⟨hc, hf⟩ := hb.facts; have hz := hb.size; (try simp only [World.size_alloc, World.size_drew] at hz); (try (have hcq := fun o => hc (w.heap.size) o (by (try simp only [World.size_alloc, World.size_drew]); omega))); (try (have hq : w.heap.size < w2.heap.size := by omega)))
  have hG12 : Grew w1 w2 := (by repeat (first | exact Grew.refl _ | assumption | refine Grew.drew ?_ | refine Grew.alloc ?_ _ | refine Grew.setCell ?_ (by (try simp only [World.size_alloc, World.size_drew]); omega) _ | refine Grew.trans ?_ (by assumption)))
  have hz12 := hG12.size
  have hz01 := hGw1.size
  have HRG : Hid (RgC w2 P L M N W H _ _ _) := new_c hW1.1 HNW.out hN0 hR1 hS1
  clear hR1 hS1
  go_loopw [36] (fun i wr => ∃ (k : Nat) (fr : Nat → Bool) (lab : Nat → Int) (D : DataW Unit), k ≤ n ∧ i = .int .i64 k ∧ RgC wr P L M N W H fr lab D ∧ Grew w1 wr) (fun i wr => n - (intOf i).toNat)
  case atStart => exact ⟨0, _, _, _, Nat.zero_le _, by simp, HRG.out.grew (by repeat (first | exact Grew.refl _ | assumption | refine Grew.drew ?_ | refine Grew.alloc ?_ _ | refine Grew.setCell ?_ (by (try simp only [World.size_alloc, World.size_drew]); omega) _ | refine Grew.trans ?_ (by assumption))), hG12.trans (by repeat (first | exact Grew.refl _ | assumption | refine Grew.drew ?_ | refine Grew.alloc ?_ _ | refine Grew.setCell ?_ (by (try simp only [World.size_alloc, World.size_drew]); omega) _ | refine Grew.trans ?_ (by assumption)))⟩
  case round =>
    obtain ⟨k, fr, lab, D, hk, rfl, hRk, hG⟩ := hrel
    have HRk : Hid (RgC wr P L M N W H fr lab D) := hRk
    have hLM : L < wr.heap.size ∧ M < wr.heap.size := ⟨hRk.r.hL, hRk.s.lt⟩
    have hGw : Grew w wr := hGw1.trans hG
    clear hRk
    by_cases hlt : k < n
    · rcases HI.out with h0 | ⟨bb, off, rfl, hc1, hc2, hbb, hcs⟩
      · omega
      obtain ⟨y, hy⟩ := hcs k hlt
      have hyc : wr.cell? ⟨bb, off + k, none⟩ = some (.int .i64 y) := (hGw.facts.1 _ _ hbb).trans hy
      obtain ⟨R, hRN, eR⟩ := uint_rem y hN0
      clear hcs hy
      go_wp2_with fail
      go_at_call 32
      refine (block_c1 P L M N W H R wr.heap.size fr lab D _ a b (HE.out _ (hGw.trans (by repeat (first | exact Grew.refl _ | assumption | refine Grew.drew ?_ | refine Grew.alloc ?_ _ | refine Grew.setCell ?_ (by (try simp only [World.size_alloc, World.size_drew]); omega) _ | refine Grew.trans ?_ (by assumption))))).range (HE.out _ (hGw.trans (by repeat (first | exact Grew.refl _ | assumption | refine Grew.drew ?_ | refine Grew.alloc ?_ _ | refine Grew.setCell ?_ (by (try simp only [World.size_alloc, World.size_drew]); omega) _ | refine Grew.trans ?_ (by assumption))))).blocked (HRk.out.grew (by repeat (first | exact Grew.refl _ | assumption | refine Grew.drew ?_ | refine Grew.alloc ?_ _ | refine Grew.setCell ?_ (by (try simp only [World.size_alloc, World.size_drew]); omega) _ | refine Grew.trans ?_ (by assumption)))) hW1 HNW.out hN1 hRN (one_list wr R) (by omega) (by omega)).mono ?_
      rintro e w5 (⟨rfl, _, hg5⟩ | ⟨lab2, D2, rfl, _, hR5, hT5⟩)
      · have HR5 : Hid (RgC w5 P L M N W H fr lab D) := (HRk.out.grew (by repeat (first | exact Grew.refl _ | assumption | refine Grew.drew ?_ | refine Grew.alloc ?_ _ | refine Grew.setCell ?_ (by (try simp only [World.size_alloc, World.size_drew]); omega) _ | refine Grew.trans ?_ (by assumption)))).grew hg5
        have hG5 : Grew w1 w5 := (hG.trans (by repeat (first | exact Grew.refl _ | assumption | refine Grew.drew ?_ | refine Grew.alloc ?_ _ | refine Grew.setCell ?_ (by (try simp only [World.size_alloc, World.size_drew]); omega) _ | refine Grew.trans ?_ (by assumption)))).trans hg5
        clear hg5
        go_wp2_with fail
        go_roundw
        case rel => exact ⟨k + 1, fr, lab, D, by omega, by go_num, HR5.out, hG5⟩
        case measure => simp [intOf]; omega
      · have HR5 : Hid (RgC w5 P L M N W H _ lab2 D2) := hR5
        have hG5 : Grew w1 w5 := hT5.grew (hG.trans (by repeat (first | exact Grew.refl _ | assumption | refine Grew.drew ?_ | refine Grew.alloc ?_ _ | refine Grew.setCell ?_ (by (try simp only [World.size_alloc, World.size_drew]); omega) _ | refine Grew.trans ?_ (by assumption)))) (by omega) (by omega)
        clear hR5 hT5
        go_wp2_with fail
        go_roundw
        case rel => exact ⟨k + 1, _, lab2, D2, by omega, by go_num, HR5.out, hG5⟩
        case measure => simp [intOf]; omega
    · obtain rfl : k = n := by omega
      go_wp2_with fail
      (go_at_call 33; refine (labels_any P L M N W H lab _ (HRk.out.r.grew (by repeat (first | exact Grew.refl _ | assumption | refine Grew.drew ?_ | refine Grew.alloc ?_ _ | refine Grew.setCell ?_ (by (try simp only [World.size_alloc, World.size_drew]); omega) _ | refine Grew.trans ?_ (by assumption)))) hN0 hN1).mono ?_; rintro e w6 ⟨⟨Dl, K', rfl, hD0, hD1, hDc⟩, hb⟩; obtain ⟨hc, hf⟩ := hb.facts; have hz := hb.size; (try simp only [World.size_alloc, World.size_drew] at hz))
      have hG6 : Grew w1 w6 := hG.trans (by repeat (first | exact Grew.refl _ | assumption | refine Grew.drew ?_ | refine Grew.alloc ?_ _ | refine Grew.setCell ?_ (by (try simp only [World.size_alloc, World.size_drew]); omega) _ | refine Grew.trans ?_ (by assumption)))
      have HDC : Hid (∀ k, k < N → w6.cell? ⟨Dl, k, none⟩ = some (.int .i64 (lab k))) := hDc
      have HR6 : Hid (RgC w6 P L M N W H fr lab D) := HRk.out.grew (by repeat (first | exact Grew.refl _ | assumption | refine Grew.drew ?_ | refine Grew.alloc ?_ _ | refine Grew.setCell ?_ (by (try simp only [World.size_alloc, World.size_drew]); omega) _ | refine Grew.trans ?_ (by assumption)))
      clear hDc
      go_wp2_with fail
      obtain ⟨wo, rfl⟩ : ∃ wo : World, wo = wr := ⟨_, rfl⟩
      go_loopw [10, 11, 12, 53] (fun s10 s11 s12 i wr => ∃ q A B C : Nat, q ≤ N ∧ s10 = .int .i64 A ∧ s11 = .int .i64 B ∧ s12 = .int .i64 C ∧ i = .int .i64 q ∧ A ≤ q ∧ B ≤ N ∧ C ≤ q ∧ Hid (A = (passed (fun j => decide (lab j ≠ -1)) q).length ∧ B = (passed (fun j => decide (lab j ≠ -1) && decide (lab j < (q : Int))) N).length ∧ C = (passed (fun j => decide (lab j = (j : Int))) q).length) ∧ Grew w6 wr) (fun s10 s11 s12 i wr => N - (intOf i).toNat)
      case atStart =>
        refine ⟨0, 0, 0, 0, Nat.zero_le _, by simp, by simp, by simp, by simp, Nat.le_refl _, Nat.zero_le _, Nat.le_refl _, ⟨rfl, ?_, rfl⟩, (by repeat (first | exact Grew.refl _ | assumption | refine Grew.drew ?_ | refine Grew.alloc ?_ _ | refine Grew.setCell ?_ (by (try simp only [World.size_alloc, World.size_drew]); omega) _ | refine Grew.trans ?_ (by assumption)))⟩
        rw [passed_none fun j hj => by
          have := HR6.out.c.ok j hj
          simp; omega]
        rfl
      case round =>
        obtain ⟨q, A, B, C, hq, rfl, rfl, rfl, rfl, hA, hB, hCq, HS, hG7⟩ := hrel
        by_cases hlq : q < N
        · have hqc : wr.cell? ⟨Dl, q, none⟩ = some (.int .i64 (lab q)) := (hG7.facts.1 _ _ hD1).trans (HDC.out q hlq)
          have HS' := HS
          have hokq := HR6.out.c.ok q hlq
          by_cases hl1 : lab q = -1
          · rw [hl1] at hqc
            have HSn : Hid (A = (passed (fun j => decide (lab j ≠ -1)) (q + 1)).length ∧ B = (passed (fun j => decide (lab j ≠ -1) && decide (lab j < ((q + 1 : Nat) : Int))) N).length ∧ C = (passed (fun j => decide (lab j = (j : Int))) (q + 1)).length) := by
              have e : lab q ≠ (q : Int) := by omega
              refine ⟨?_, ?_, ?_⟩
              · rw [plen_succ, HS.out.1]; simp [hl1]
              · rw [sums_step HR6.out.c hW1.1 HNW.out hlq, if_neg e, HS.out.2.1]; rfl
              · rw [plen_succ, HS.out.2.2]; simp [e]
            clear hl1 hokq HS HS'
            go_wp2_with fail
            go_roundw
            case rel => exact ⟨q + 1, A, B, C, by omega, rfl, rfl, rfl, by go_num, by omega, by omega, by omega, HSn, hG7⟩
            case measure => simp [intOf]; omega
          · obtain ⟨l, el, hlle, hlN, hll, _, _⟩ := HR6.out.c.self hW1.1 HNW.out hlq hl1
            have hat := HR6.out.z.at_ l hlN hll
            obtain ⟨c, hcn⟩ : ∃ c, c = cnt N lab l := ⟨_, rfl⟩
            rw [← hcn] at hat
            have HAT : Hid (∀ z, D.atKey (.int .i64 l) z = .lit (.int .i64 c)) := hat
            have HL : Hid (lab q = l ∧ lab l = l) := ⟨el, hll⟩
            have hcN : c ≤ N := by rw [hcn]; exact passed_le _ _
            rw [el] at hqc
            have d0 : decide ((q : Int) < (l : Int)) = false := by simp; omega
            have d1 : ((l : Int) == -1) = false := by rw [beq_eq_false_iff_ne]; omega
            have HC : Hid (c = cnt N lab l) := hcn
            have hst := sums_step HR6.out.c hW1.1 HNW.out hlq
            have hA1 : A + 1 = (passed (fun j => decide (lab j ≠ -1)) (q + 1)).length := by rw [plen_succ, HS.out.1]; simp [hl1]
            have hC1 : (passed (fun j => decide (lab j = (j : Int))) (q + 1)).length = C + (if lab q = (q : Int) then 1 else 0) := by rw [plen_succ, HS.out.2.2]; simp
            have hB1 : B = _ := HS.out.2.1
            rw [← hB1] at hst
            have hle : (passed (fun j => decide (lab j ≠ -1) && decide (lab j < ((q + 1 : Nat) : Int))) N).length ≤ N := passed_le _ _
            rw [el] at hst hC1
            by_cases elq : l = q
            · rw [if_pos (by omega)] at hst hC1
              have ecq : cnt N lab q = c := by rw [hcn, elq]
              rw [ecq] at hst
              have hBc : B + c ≤ N := by omega
              have HSn : Hid (A + 1 = (passed (fun j => decide (lab j ≠ -1)) (q + 1)).length ∧ B + c = (passed (fun j => decide (lab j ≠ -1) && decide (lab j < ((q + 1 : Nat) : Int))) N).length ∧ C + 1 = (passed (fun j => decide (lab j = (j : Int))) (q + 1)).length) := ⟨hA1, hst.symm, hC1.symm⟩
              have d2 : ((l : Int) == (q : Int)) = true := by rw [elq]; simp
              have HT : Hid (decide (lab l = lab q ∧ lab l ≠ -1) = true) := by
                show _ = _
                rw [HL.out.1, HL.out.2]; simp
              clear hcn hat el hll hl1 HS HS' hst hA1 hC1 hB1 hle ecq hokq elq
              go_wp2_with fail
              (go_at_call 43; refine (together_in P L M N W H l q lab _ (HR6.out.r.grew (hG7.trans (by repeat (first | exact Grew.refl _ | assumption | refine Grew.drew ?_ | refine Grew.alloc ?_ _ | refine Grew.setCell ?_ (by (try simp only [World.size_alloc, World.size_drew]); omega) _ | refine Grew.trans ?_ (by assumption))))) hlN hlq).mono ?_; rintro e w8 ⟨rfl, hb⟩; obtain ⟨hc, hf⟩ := hb.facts; have hz := hb.size; (try simp only [World.size_alloc, World.size_drew] at hz))
              rw [HT.out]
              have hG8 : Grew w6 w8 := hG7.trans (by repeat (first | exact Grew.refl _ | assumption | refine Grew.drew ?_ | refine Grew.alloc ?_ _ | refine Grew.setCell ?_ (by (try simp only [World.size_alloc, World.size_drew]); omega) _ | refine Grew.trans ?_ (by assumption)))
              go_wp2_with fail
              (go_at_call 44; refine (size_in P L M N W H q l c N lab D _ (HR6.out.r.grew (hG8.trans (by repeat (first | exact Grew.refl _ | assumption | refine Grew.drew ?_ | refine Grew.alloc ?_ _ | refine Grew.setCell ?_ (by (try simp only [World.size_alloc, World.size_drew]); omega) _ | refine Grew.trans ?_ (by assumption))))) (HR6.out.s.grew (hG8.trans (by repeat (first | exact Grew.refl _ | assumption | refine Grew.drew ?_ | refine Grew.alloc ?_ _ | refine Grew.setCell ?_ (by (try simp only [World.size_alloc, World.size_drew]); omega) _ | refine Grew.trans ?_ (by assumption))))) hlq hN1 HL.out.1 hlN HAT.out).mono ?_; rintro e w9 ⟨rfl, hb⟩; obtain ⟨hc, hf⟩ := hb.facts; have hz := hb.size; (try simp only [World.size_alloc, World.size_drew] at hz))
              have hG9 : Grew w6 w9 := hG8.trans (by repeat (first | exact Grew.refl _ | assumption | refine Grew.drew ?_ | refine Grew.alloc ?_ _ | refine Grew.setCell ?_ (by (try simp only [World.size_alloc, World.size_drew]); omega) _ | refine Grew.trans ?_ (by assumption)))
              go_wp2_with fail
              (go_at_call 44; refine (size_in P L M N W H l l c N lab D _ (HR6.out.r.grew (hG9.trans (by repeat (first | exact Grew.refl _ | assumption | refine Grew.drew ?_ | refine Grew.alloc ?_ _ | refine Grew.setCell ?_ (by (try simp only [World.size_alloc, World.size_drew]); omega) _ | refine Grew.trans ?_ (by assumption))))) (HR6.out.s.grew (hG9.trans (by repeat (first | exact Grew.refl _ | assumption | refine Grew.drew ?_ | refine Grew.alloc ?_ _ | refine Grew.setCell ?_ (by (try simp only [World.size_alloc, World.size_drew]); omega) _ | refine Grew.trans ?_ (by assumption))))) hlN hN1 HL.out.2 hlN HAT.out).mono ?_; rintro e w10 ⟨rfl, hb⟩; obtain ⟨hc, hf⟩ := hb.facts; have hz := hb.size; (try simp only [World.size_alloc, World.size_drew] at hz))
              have hG10 : Grew w6 w10 := hG9.trans (by repeat (first | exact Grew.refl _ | assumption | refine Grew.drew ?_ | refine Grew.alloc ?_ _ | refine Grew.setCell ?_ (by (try simp only [World.size_alloc, World.size_drew]); omega) _ | refine Grew.trans ?_ (by assumption)))
              go_wp2_with fail
              (go_at_call 44; refine (size_in P L M N W H q l c N lab D _ (HR6.out.r.grew (hG10.trans (by repeat (first | exact Grew.refl _ | assumption | refine Grew.drew ?_ | refine Grew.alloc ?_ _ | refine Grew.setCell ?_ (by (try simp only [World.size_alloc, World.size_drew]); omega) _ | refine Grew.trans ?_ (by assumption))))) (HR6.out.s.grew (hG10.trans (by repeat (first | exact Grew.refl _ | assumption | refine Grew.drew ?_ | refine Grew.alloc ?_ _ | refine Grew.setCell ?_ (by (try simp only [World.size_alloc, World.size_drew]); omega) _ | refine Grew.trans ?_ (by assumption))))) hlq hN1 HL.out.1 hlN HAT.out).mono ?_; rintro e w11 ⟨rfl, hb⟩; obtain ⟨hc, hf⟩ := hb.facts; have hz := hb.size; (try simp only [World.size_alloc, World.size_drew] at hz))
              have hG11 : Grew w6 w11 := hG10.trans (by repeat (first | exact Grew.refl _ | assumption | refine Grew.drew ?_ | refine Grew.alloc ?_ _ | refine Grew.setCell ?_ (by (try simp only [World.size_alloc, World.size_drew]); omega) _ | refine Grew.trans ?_ (by assumption)))
              go_wp2_with fail
              go_roundw
              case rel => exact ⟨q + 1, A + 1, B + c, C + 1, by omega, by go_num, by go_num, by go_num, by go_num, by omega, by omega, by omega, HSn, hG11⟩
              case measure => simp [intOf]; omega
            · rw [if_neg (by omega)] at hst hC1
              have HSn : Hid (A + 1 = (passed (fun j => decide (lab j ≠ -1)) (q + 1)).length ∧ B = (passed (fun j => decide (lab j ≠ -1) && decide (lab j < ((q + 1 : Nat) : Int))) N).length ∧ C = (passed (fun j => decide (lab j = (j : Int))) (q + 1)).length) := ⟨hA1, hst.symm, hC1.symm⟩
              have d2 : ((l : Int) == (q : Int)) = false := by rw [beq_eq_false_iff_ne]; omega
              have HT : Hid (decide (lab l = lab q ∧ lab l ≠ -1) = true) := by
                show _ = _
                rw [HL.out.1, HL.out.2]; simp
              clear hcn hat el hll hl1 HS HS' hst hA1 hC1 hB1 hle hokq elq
              go_wp2_with fail
              (go_at_call 43; refine (together_in P L M N W H l q lab _ (HR6.out.r.grew (hG7.trans (by repeat (first | exact Grew.refl _ | assumption | refine Grew.drew ?_ | refine Grew.alloc ?_ _ | refine Grew.setCell ?_ (by (try simp only [World.size_alloc, World.size_drew]); omega) _ | refine Grew.trans ?_ (by assumption))))) hlN hlq).mono ?_; rintro e w8 ⟨rfl, hb⟩; obtain ⟨hc, hf⟩ := hb.facts; have hz := hb.size; (try simp only [World.size_alloc, World.size_drew] at hz))
              rw [HT.out]
              have hG8 : Grew w6 w8 := hG7.trans (by repeat (first | exact Grew.refl _ | assumption | refine Grew.drew ?_ | refine Grew.alloc ?_ _ | refine Grew.setCell ?_ (by (try simp only [World.size_alloc, World.size_drew]); omega) _ | refine Grew.trans ?_ (by assumption)))
              go_wp2_with fail
              (go_at_call 44; refine (size_in P L M N W H q l c N lab D _ (HR6.out.r.grew (hG8.trans (by repeat (first | exact Grew.refl _ | assumption | refine Grew.drew ?_ | refine Grew.alloc ?_ _ | refine Grew.setCell ?_ (by (try simp only [World.size_alloc, World.size_drew]); omega) _ | refine Grew.trans ?_ (by assumption))))) (HR6.out.s.grew (hG8.trans (by repeat (first | exact Grew.refl _ | assumption | refine Grew.drew ?_ | refine Grew.alloc ?_ _ | refine Grew.setCell ?_ (by (try simp only [World.size_alloc, World.size_drew]); omega) _ | refine Grew.trans ?_ (by assumption))))) hlq hN1 HL.out.1 hlN HAT.out).mono ?_; rintro e w9 ⟨rfl, hb⟩; obtain ⟨hc, hf⟩ := hb.facts; have hz := hb.size; (try simp only [World.size_alloc, World.size_drew] at hz))
              have hG9 : Grew w6 w9 := hG8.trans (by repeat (first | exact Grew.refl _ | assumption | refine Grew.drew ?_ | refine Grew.alloc ?_ _ | refine Grew.setCell ?_ (by (try simp only [World.size_alloc, World.size_drew]); omega) _ | refine Grew.trans ?_ (by assumption)))
              go_wp2_with fail
              (go_at_call 44; refine (size_in P L M N W H l l c N lab D _ (HR6.out.r.grew (hG9.trans (by repeat (first | exact Grew.refl _ | assumption | refine Grew.drew ?_ | refine Grew.alloc ?_ _ | refine Grew.setCell ?_ (by (try simp only [World.size_alloc, World.size_drew]); omega) _ | refine Grew.trans ?_ (by assumption))))) (HR6.out.s.grew (hG9.trans (by repeat (first | exact Grew.refl _ | assumption | refine Grew.drew ?_ | refine Grew.alloc ?_ _ | refine Grew.setCell ?_ (by (try simp only [World.size_alloc, World.size_drew]); omega) _ | refine Grew.trans ?_ (by assumption))))) hlN hN1 HL.out.2 hlN HAT.out).mono ?_; rintro e w10 ⟨rfl, hb⟩; obtain ⟨hc, hf⟩ := hb.facts; have hz := hb.size; (try simp only [World.size_alloc, World.size_drew] at hz))
              have hG10 : Grew w6 w10 := hG9.trans (by repeat (first | exact Grew.refl _ | assumption | refine Grew.drew ?_ | refine Grew.alloc ?_ _ | refine Grew.setCell ?_ (by (try simp only [World.size_alloc, World.size_drew]); omega) _ | refine Grew.trans ?_ (by assumption)))
              go_wp2_with fail
              go_roundw
              case rel => exact ⟨q + 1, A + 1, B, C, by omega, by go_num, by go_num, by go_num, by go_num, by omega, by omega, by omega, HSn, hG10⟩
              case measure => simp [intOf]; omega
        · obtain rfl : q = N := by omega
          have hAB : A = B := by
            rw [HS.out.1, HS.out.2.1]
            exact plen_congr fun j hj => by
              have := HR6.out.c.ok j hj
              have e : lab j < (q : Int) := this.2
              simp [e]
          have hCD : Maps.size D = C := by rw [HR6.out.z.sz, HS.out.2.2]; rfl
          subst hAB
          go_wp2_with fail
          (go_at_call 34; refine (rcount_any P L M q W H q lab D _ (HR6.out.r.grew (hG7.trans (by repeat (first | exact Grew.refl _ | assumption | refine Grew.drew ?_ | refine Grew.alloc ?_ _ | refine Grew.setCell ?_ (by (try simp only [World.size_alloc, World.size_drew]); omega) _ | refine Grew.trans ?_ (by assumption))))) (HR6.out.s.grew (hG7.trans (by repeat (first | exact Grew.refl _ | assumption | refine Grew.drew ?_ | refine Grew.alloc ?_ _ | refine Grew.setCell ?_ (by (try simp only [World.size_alloc, World.size_drew]); omega) _ | refine Grew.trans ?_ (by assumption)))))).mono ?_; rintro e w8 ⟨rfl, hb⟩; obtain ⟨hc, hf⟩ := hb.facts; have hz := hb.size; (try simp only [World.size_alloc, World.size_drew] at hz))
          rw [hCD]
          have hG8 : Grew w6 w8 := hG7.trans (by repeat (first | exact Grew.refl _ | assumption | refine Grew.drew ?_ | refine Grew.alloc ?_ _ | refine Grew.setCell ?_ (by (try simp only [World.size_alloc, World.size_drew]); omega) _ | refine Grew.trans ?_ (by assumption)))
          go_wp2_with fail
          go_ret
          exact ⟨by simp, (hGw1.trans hG6).trans hG8⟩
theorem regionSums_all (W H S X Y : Int) (v : Option Addr) (n cap : Nat) (w : World) (a f b s : Addr) (hE : Sent w a f b s) (hI : IntsIn w v n cap) :
    Calls Tryd.prog 11 #[.agg #[.int .i64 W, .int .i64 H, .int .i64 S, .int .i64 X, .int .i64 Y], .slice v n cap] w fun e w' => e = .returned (.bool true) ∧ Grew w w' := by
  cases h : gridB W H S X Y
  · exact regionSums_early W H S X Y v n cap w a f b s hE h
  · obtain ⟨_, ⟨g1, g2, g3, g4, g5, g6⟩, _⟩ := grid_facts h
    obtain ⟨W', rfl⟩ : ∃ W' : Nat, W = W' := ⟨W.toNat, by omega⟩
    obtain ⟨H', rfl⟩ : ∃ H' : Nat, H = H' := ⟨H.toNat, by omega⟩
    by_cases hn : n ≤ 200
    · exact regionSums_any W' H' S X Y v n cap w a f b s hE hI h hn
    · exact regionSums_long W' H' S X Y v n cap w a f b s hE h (by omega)
end Go.Proofs.YtbgbfljbjpbinaaDoor

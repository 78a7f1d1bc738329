/- The walk of the law TilesPlays: it answers true. Conditions: package api's errors' cells; the script's cells. -/
import Derived.Test.YtbgbfljbjpbinaaDoorLawBack
import Derived.Test.YtbgbfljbjpbinaaDoorRMap2
import Derived.Test.YtbgbfljbjpbinaaDoorMap6
import Derived.Test.YtbgbfljbjpbinaaDoorNum
namespace Go.Proofs.YtbgbfljbjpbinaaDoor
set_option linter.unusedSimpArgs false
set_option linter.unusedVariables false
open Go.RowKit

theorem rput_any (P C N : Nat) (W H S X Y b0 b1 b2 b3 : Int) (c : Nat → Int) (w : World) (hM : MapAt w P C N W H S X Y c) (h : gridB W H S X Y = true) (hN : W * H = N) (hc : ∀ k, k < N → 0 ≤ c k ∧ c k ≤ 1000000) :
    Calls Tryd.prog 38 #[.pointer (some ⟨P, 0, none⟩), .agg #[.int .i64 b0, .int .i64 b1, .int .i64 b2, .int .i64 b3]] w fun e w' => (∃ v, e = .returned v ∧ NewInts w' v (passed (fresh c (underN W H S X Y b0 b1 b2 b3)) N) w.heap.size ∧ MapAt w' P C N W H S X Y (bump c (underN W H S X Y b0 b1 b2 b3) 1 N)) ∧ Turn C w w' := by
  obtain ⟨_, _, _, _, fA⟩ := grid_facts h
  refine rput_core P C N W H S X Y b0 b1 b2 b3 c _ w hM (by omega) hc fun w1 g => ?_
  have := runder_new W H S X Y b0 b1 b2 b3 w1
  rw [underL, hN, Int.toNat_natCast] at this
  exact this
theorem rdrop_any (P C N : Nat) (W H S X Y b0 b1 b2 b3 : Int) (c : Nat → Int) (w : World) (hM : MapAt w P C N W H S X Y c) (h : gridB W H S X Y = true) (hN : W * H = N) (hc : ∀ k, k < N → 0 ≤ c k ∧ c k ≤ 1000000) (hany : anyB (fresh c (underN W H S X Y b0 b1 b2 b3)) N = false) :
    Calls Tryd.prog 39 #[.pointer (some ⟨P, 0, none⟩), .agg #[.int .i64 b0, .int .i64 b1, .int .i64 b2, .int .i64 b3]] w fun e w' => (∃ v, e = .returned (.tuple #[v, .int .i64 0]) ∧ NewInts w' v (passed (last c (underN W H S X Y b0 b1 b2 b3)) N) w.heap.size ∧ MapAt w' P C N W H S X Y (bump c (underN W H S X Y b0 b1 b2 b3) (-1) N)) ∧ Turn C w w' := by
  obtain ⟨_, _, _, _, fA⟩ := grid_facts h
  refine rdrop_yes P C N W H S X Y b0 b1 b2 b3 c _ w hM (by omega) hc (fun w1 g => ?_) hany
  have := runder_new W H S X Y b0 b1 b2 b3 w1
  rw [underL, hN, Int.toNat_natCast] at this
  exact this
theorem rdrop_none (P C N : Nat) (W H S X Y b0 b1 b2 b3 : Int) (c : Nat → Int) (w : World) (hM : MapAt w P C N W H S X Y c) (h : gridB W H S X Y = true) (hN : W * H = N) (hc : ∀ k, k < N → 0 ≤ c k ∧ c k ≤ 1000000) (hany : anyB (fresh c (underN W H S X Y b0 b1 b2 b3)) N = true) :
    Calls Tryd.prog 39 #[.pointer (some ⟨P, 0, none⟩), .agg #[.int .i64 b0, .int .i64 b1, .int .i64 b2, .int .i64 b3]] w fun e w' => (∃ v, e = .returned (.tuple #[v, .int .i64 3]) ∧ IntsAt w' v []) ∧ Grew w w' := by
  obtain ⟨_, _, _, _, fA⟩ := grid_facts h
  refine rdrop_no P C N W H S X Y b0 b1 b2 b3 c _ w hM (by omega) hc (fun w1 g => ?_) hany
  have := runder_new W H S X Y b0 b1 b2 b3 w1
  rw [underL, hN, Int.toNat_natCast] at this
  exact this
theorem drop_none (P C N : Nat) (W H S X Y b0 b1 b2 b3 : Int) (c : Nat → Int) (w : World) (a d : Addr) (hg : w.cell? ⟨1, 0, none⟩ = some (.iface 130 (.pointer (some a)))) (hnone : w.cell? ⟨3, 0, none⟩ = some (.iface 130 (.pointer (some d)))) (hM : MapAt w P C N W H S X Y c) (h : gridB W H S X Y = true) (hN : W * H = N) (hany : anyB (fresh c (underN W H S X Y b0 b1 b2 b3)) N = true) :
    Calls Tryd.prog 29 #[.pointer (some ⟨P, 0, none⟩), .agg #[.int .i64 b0, .int .i64 b1, .int .i64 b2, .int .i64 b3]] w fun e w' => e = .returned (.tuple #[.slice none 0 0, .iface 130 (.pointer (some d))]) ∧ Grew w w' := by
  obtain ⟨_, _, _, _, fA⟩ := grid_facts h
  refine drop_no P C N W H S X Y b0 b1 b2 b3 c _ w d hnone hM (by omega) (fun w1 g => ?_) hany
  have := under_new W H S X Y b0 b1 b2 b3 w1 a ((g.facts.1 _ _ (lt_of_cell hg)).trans hg)
  rw [underL, hN, Int.toNat_natCast] at this
  exact this

/-- The script's steps lie in memory. -/
def ScriptIn (w : World) (v : Option Addr) (n : Nat) : Prop := n = 0 ∨ ∃ bb off, v = some ⟨bb, off, none⟩ ∧ bb < w.heap.size ∧ ∀ i, i < n → ∃ kd b0 b1 b2 b3 : Int,
  w.cell? ⟨bb, off + i * 5, none⟩ = some (.int .i64 kd) ∧ w.cell? ⟨bb, off + i * 5 + 1, none⟩ = some (.int .i64 b0) ∧ w.cell? ⟨bb, off + i * 5 + 2, none⟩ = some (.int .i64 b1) ∧ w.cell? ⟨bb, off + i * 5 + 3, none⟩ = some (.int .i64 b2) ∧ w.cell? ⟨bb, off + i * 5 + 4, none⟩ = some (.int .i64 b3)
theorem ScriptIn.grew {w w' : World} {v : Option Addr} {n : Nat} (h : ScriptIn w v n) (g : Grew w w') : ScriptIn w' v n :=
  h.imp id fun ⟨bb, off, hv, hb, hc⟩ => ⟨bb, off, hv, by have := g.size; omega, fun i hi => by
    obtain ⟨kd, b0, b1, b2, b3, k0, k1, k2, k3, k4⟩ := hc i hi
    have q := fun o => g.facts.1 bb o hb
    exact ⟨kd, b0, b1, b2, b3, (q _).trans k0, (q _).trans k1, (q _).trans k2, (q _).trans k3, (q _).trans k4⟩⟩

/-- Both maps in the midst of a play. -/
structure PlayAt (w1 wr : World) (RP RC P C N : Nat) (W H S X Y : Int) (c : Nat → Int) (k : Nat) : Prop where
  p : MapAt wr P C N W H S X Y c
  r : MapAt wr RP RC N W H S X Y c
  n1 : P ≠ RP
  n2 : P ≠ RC
  n3 : C ≠ RP
  n4 : C ≠ RC
  q1 : w1.heap.size ≤ P
  q2 : w1.heap.size ≤ C
  b : ∀ j, j < N → 0 ≤ c j ∧ c j ≤ k
  g : Grew w1 wr
theorem PlayAt.grew {w1 wr w' : World} {RP RC P C N : Nat} {W H S X Y : Int} {c : Nat → Int} {k : Nat} (h : PlayAt w1 wr RP RC P C N W H S X Y c k) (g : Grew wr w') : PlayAt w1 w' RP RC P C N W H S X Y c k :=
  ⟨h.p.grew g, h.r.grew g, h.n1, h.n2, h.n3, h.n4, h.q1, h.q2, h.b, h.g.trans g⟩
theorem PlayAt.more {w1 wr : World} {RP RC P C N : Nat} {W H S X Y : Int} {c : Nat → Int} {k : Nat} (h : PlayAt w1 wr RP RC P C N W H S X Y c k) : PlayAt w1 wr RP RC P C N W H S X Y c (k + 1) :=
  ⟨h.p, h.r, h.n1, h.n2, h.n3, h.n4, h.q1, h.q2, fun j hj => by have := h.b j hj; push_cast; omega, h.g⟩

set_option maxRecDepth 100000 in
set_option maxHeartbeats 16000000 in
theorem tilesPlays_any (W H S X Y x : Int) (v : Option Addr) (n cap : Nat) (w : World) (ad : Nat → Addr) (hE : Errs w ad) (hB : ScriptIn w v n) :
    Calls Tryd.prog 10 #[.agg #[.int .i64 W, .int .i64 H, .int .i64 S, .int .i64 X, .int .i64 Y], .slice v n cap, .int .i64 x] w fun e w' => e = .returned (.bool true) ∧ Grew w w' := by
  have HB : Hid (ScriptIn w v n) := hB
  clear hB
  by_cases hn : 40 < n
  · go_enter Tryd.func10, Tryd.ntmps10
    go_wp2_with (go_at_call 13; refine (alive14_any _ _ ((hE.grew (by repeat (first | exact Grew.refl _ | assumption | refine Grew.drew ?_ | refine Grew.alloc ?_ _ | refine Grew.setCell ?_ (by (try simp only [World.size_alloc, World.size_drew]); omega) _ | refine Grew.trans ?_ (by assumption)))).cell 1 (by decide))).mono ?_; rintro e w1 ⟨rfl, hb⟩; obtain ⟨hc, hf⟩ := hb.facts; have hz := hb.size; (try simp only [World.size_alloc, World.size_drew] at hz); (try (have hcq := fun o => hc (w.heap.size) o (by (try simp only [World.size_alloc, World.size_drew]); omega))); (try (have hq : w.heap.size < w1.heap.size := by omega)))
    go_ret
    exact ⟨rfl, (by repeat (first | exact Grew.refl _ | assumption | refine Grew.drew ?_ | refine Grew.alloc ?_ _ | refine Grew.setCell ?_ (by (try simp only [World.size_alloc, World.size_drew]); omega) _ | refine Grew.trans ?_ (by assumption)))⟩
  cases hgr : gridB W H S X Y
  · go_enter Tryd.func10, Tryd.ntmps10
    go_wp2_with (first | (go_at_call 13; refine (alive14_any _ _ ((hE.grew (by repeat (first | exact Grew.refl _ | assumption | refine Grew.drew ?_ | refine Grew.alloc ?_ _ | refine Grew.setCell ?_ (by (try simp only [World.size_alloc, World.size_drew]); omega) _ | refine Grew.trans ?_ (by assumption)))).cell 1 (by decide))).mono ?_; rintro e w1 ⟨rfl, hb⟩; obtain ⟨hc, hf⟩ := hb.facts; have hz := hb.size; (try simp only [World.size_alloc, World.size_drew] at hz); (try (have hcq := fun o => hc (w.heap.size) o (by (try simp only [World.size_alloc, World.size_drew]); omega))); (try (have hq : w.heap.size < w1.heap.size := by omega))) | (go_at_call 20; refine (tnew_no _ _ _ _ _ _ _ _ ((hE.grew (by repeat (first | exact Grew.refl _ | assumption | refine Grew.drew ?_ | refine Grew.alloc ?_ _ | refine Grew.setCell ?_ (by (try simp only [World.size_alloc, World.size_drew]); omega) _ | refine Grew.trans ?_ (by assumption)))).cell 1 (by decide)) ((hE.grew (by repeat (first | exact Grew.refl _ | assumption | refine Grew.drew ?_ | refine Grew.alloc ?_ _ | refine Grew.setCell ?_ (by (try simp only [World.size_alloc, World.size_drew]); omega) _ | refine Grew.trans ?_ (by assumption)))).cell 0 (by decide)) hgr).mono ?_; rintro e w2 ⟨rfl, hb⟩; obtain ⟨hc, hf⟩ := hb.facts; have hz := hb.size; (try simp only [World.size_alloc, World.size_drew] at hz); (try (have hcq := fun o => hc (w.heap.size) o (by (try simp only [World.size_alloc, World.size_drew]); omega))); (try (have hq : w.heap.size < w2.heap.size := by omega))) | (go_at_call 26; refine (rgright_any _ _ _ _ _ _).mono ?_; rintro e w3 ⟨rfl, hb⟩; obtain ⟨hc, hf⟩ := hb.facts; have hz := hb.size; (try simp only [World.size_alloc, World.size_drew] at hz); (try (have hcq := fun o => hc (w.heap.size) o (by (try simp only [World.size_alloc, World.size_drew]); omega))); (try (have hq : w.heap.size < w3.heap.size := by omega))) | (go_at_call 27; refine (num_Form _ ad (hE.grew (by repeat (first | exact Grew.refl _ | assumption | refine Grew.drew ?_ | refine Grew.alloc ?_ _ | refine Grew.setCell ?_ (by (try simp only [World.size_alloc, World.size_drew]); omega) _ | refine Grew.trans ?_ (by assumption))))).mono ?_; rintro e w4 ⟨rfl, hb⟩; obtain ⟨hc, hf⟩ := hb.facts; have hz := hb.size; (try simp only [World.size_alloc, World.size_drew] at hz); (try (have hcq := fun o => hc (w.heap.size) o (by (try simp only [World.size_alloc, World.size_drew]); omega))); (try (have hq : w.heap.size < w4.heap.size := by omega))))
    go_ret
    exact ⟨rfl, (by repeat (first | exact Grew.refl _ | assumption | refine Grew.drew ?_ | refine Grew.alloc ?_ _ | refine Grew.setCell ?_ (by (try simp only [World.size_alloc, World.size_drew]); omega) _ | refine Grew.trans ?_ (by assumption)))⟩
  obtain ⟨_, ⟨g1, g2, g3, g4, g5, g6⟩, _, _, fA⟩ := grid_facts hgr
  obtain ⟨N, hN⟩ : ∃ N : Nat, W * H = N := ⟨(W * H).toNat, by omega⟩
  have hN1 : N ≤ 1024 := by omega
  have hN0 : 0 < N := by omega
  clear fA
  go_enter Tryd.func10, Tryd.ntmps10
  go_wp2_with fail
  (go_at_call 13; refine (alive14_any _ _ ((hE.grew (by repeat (first | exact Grew.refl _ | assumption | refine Grew.drew ?_ | refine Grew.alloc ?_ _ | refine Grew.setCell ?_ (by (try simp only [World.size_alloc, World.size_drew]); omega) _ | refine Grew.trans ?_ (by assumption)))).cell 1 (by decide))).mono ?_; rintro e w1 ⟨rfl, hb⟩; obtain ⟨hc, hf⟩ := hb.facts; have hz := hb.size; (try simp only [World.size_alloc, World.size_drew] at hz); (try (have hcq := fun o => hc (w.heap.size) o (by (try simp only [World.size_alloc, World.size_drew]); omega))); (try (have hq : w.heap.size < w1.heap.size := by omega)))
  have hG01 : Grew w w1 := (by repeat (first | exact Grew.refl _ | assumption | refine Grew.drew ?_ | refine Grew.alloc ?_ _ | refine Grew.setCell ?_ (by (try simp only [World.size_alloc, World.size_drew]); omega) _ | refine Grew.trans ?_ (by assumption)))
  have HB1 : Hid (ScriptIn w1 v n) := HB.out.grew hG01
  have HE1 : Hid (Errs w1 ad) := hE.grew hG01
  have hzw : w.heap.size < w1.heap.size := by assumption
  go_wp2_with (first | (go_at_call 20; refine (tnew_yes _ _ _ _ _ N _ _ ((hE.grew (by repeat (first | exact Grew.refl _ | assumption | refine Grew.drew ?_ | refine Grew.alloc ?_ _ | refine Grew.setCell ?_ (by (try simp only [World.size_alloc, World.size_drew]); omega) _ | refine Grew.trans ?_ (by assumption)))).cell 1 (by decide)) hgr hN).mono ?_; rintro e w2 ⟨⟨P0, C0, rfl, hM, hP0, hC0⟩, hb⟩; obtain ⟨hc, hf⟩ := hb.facts; have hz := hb.size; (try simp only [World.size_alloc, World.size_drew] at hz); (try (have hcq := fun o => hc (w.heap.size) o (by (try simp only [World.size_alloc, World.size_drew]); omega))); (try (have hq : w.heap.size < w2.heap.size := by omega))) | (go_at_call 26; refine (rgright_any _ _ _ _ _ _).mono ?_; rintro e w3 ⟨rfl, hb⟩; obtain ⟨hc, hf⟩ := hb.facts; have hz := hb.size; (try simp only [World.size_alloc, World.size_drew] at hz); (try (have hcq := fun o => hc (w.heap.size) o (by (try simp only [World.size_alloc, World.size_drew]); omega))); (try (have hq : w.heap.size < w3.heap.size := by omega))))
  have HM3 : Hid (MapAt w3 P0 C0 N W H S X Y (fun _ => 0)) := hM.grew (by assumption)
  clear hM
  have hPC3 : P0 < w3.heap.size ∧ C0 < w3.heap.size := ⟨HM3.out.hP, HM3.out.hC⟩
  have hG13 : Grew w1 w3 := (by repeat (first | exact Grew.refl _ | assumption | refine Grew.drew ?_ | refine Grew.alloc ?_ _ | refine Grew.setCell ?_ (by (try simp only [World.size_alloc, World.size_drew]); omega) _ | refine Grew.trans ?_ (by assumption)))
  refine wp_region_held_drew (S := (fun w' => w'.cell? ⟨w.heap.size, 0, none⟩ = some (.int .i64 W) ∧ w'.cell? ⟨w.heap.size, 1, none⟩ = some (.int .i64 H) ∧ w'.cell? ⟨w.heap.size, 2, none⟩ = some (.int .i64 S) ∧ w'.cell? ⟨w.heap.size, 3, none⟩ = some (.int .i64 X) ∧ w'.cell? ⟨w.heap.size, 4, none⟩ = some (.int .i64 Y) ∧ w.heap.size < w'.heap.size ∧ Grew w w')) (by kernel_rfl) (by ((try dsimp only); (refine ⟨?_, ?_, ?_, ?_, ?_, ?_, ?_⟩ <;> first | (go_keep; done) | omega | (simp [go_sem, *]; done) | ((try rw [World.cell?_drew]); (repeat rw [World.cell?_alloc_lt _ _ _ (by (try simp only [World.size_alloc]); omega)]); assumption) | (simp only [World.size_drew, World.size_alloc]; omega) | ((refine Grew.trans ?_ (by assumption)); simp [*]; done) | ((repeat (first | exact Grew.refl _ | assumption | refine Grew.drew ?_ | refine Grew.alloc ?_ _ | refine Grew.setCell ?_ (by (try simp only [World.size_alloc, World.size_drew]); omega) _ | refine Grew.trans ?_ (by assumption))); done)))) (fun hHeld => ?_)
  (try dsimp only at hHeld); (try simp only [World.cell?_drew, World.size_drew] at hHeld)
  first | ((refine wpAnyH_take (i := 0) (oi := ⟨(some 40), _, _, _, _, _⟩) (v := undef) rfl (by kernel_rfl) (by kernel_rfl) (by kernel_rfl) (fun _ _ _ h => h) (Or.inr ⟨by rfl, rfl⟩) (by assumption) ?_); (try simp only [Act.put, List.setIfInBounds_toArray, List.set_cons_zero, List.set_cons_succ])) | ((refine wpAnyH_take (i := 0) (oi := ⟨(some 40), _, _, _, _, _⟩) (v := ?_) rfl (by kernel_rfl) (by kernel_rfl) (by kernel_rfl) (fun _ _ _ h => h) (Or.inl ⟨by rfl, ?_⟩) (by assumption) ?_; rotate_left; focus ((intro w hSw; (try dsimp only at hSw); go_simp; (try with_reducible rfl)); done)); (try simp only [Act.put, List.setIfInBounds_toArray, List.set_cons_zero, List.set_cons_succ]))
  first | ((refine wpAnyH_take (i := 1) (oi := ⟨(some 41), _, _, _, _, _⟩) (v := undef) rfl (by kernel_rfl) (by kernel_rfl) (by kernel_rfl) (fun _ _ _ h => h) (Or.inr ⟨by rfl, rfl⟩) (by assumption) ?_); (try simp only [Act.put, List.setIfInBounds_toArray, List.set_cons_zero, List.set_cons_succ])) | ((refine wpAnyH_take (i := 1) (oi := ⟨(some 41), _, _, _, _, _⟩) (v := ?_) rfl (by kernel_rfl) (by kernel_rfl) (by kernel_rfl) (fun _ _ _ h => h) (Or.inl ⟨by rfl, ?_⟩) (by assumption) ?_; rotate_left; focus ((intro w hSw; (try dsimp only at hSw); go_simp; (try with_reducible rfl)); done)); (try simp only [Act.put, List.setIfInBounds_toArray, List.set_cons_zero, List.set_cons_succ]))
  first | ((refine wpAnyH_take (i := 2) (oi := ⟨(some 42), _, _, _, _, _⟩) (v := undef) rfl (by kernel_rfl) (by kernel_rfl) (by kernel_rfl) (fun _ _ _ h => h) (Or.inr ⟨by rfl, rfl⟩) (by assumption) ?_); (try simp only [Act.put, List.setIfInBounds_toArray, List.set_cons_zero, List.set_cons_succ])) | ((refine wpAnyH_take (i := 2) (oi := ⟨(some 42), _, _, _, _, _⟩) (v := ?_) rfl (by kernel_rfl) (by kernel_rfl) (by kernel_rfl) (fun _ _ _ h => h) (Or.inl ⟨by rfl, ?_⟩) (by assumption) ?_; rotate_left; focus ((intro w hSw; (try dsimp only at hSw); go_simp; (try with_reducible rfl)); done)); (try simp only [Act.put, List.setIfInBounds_toArray, List.set_cons_zero, List.set_cons_succ]))
  first | ((refine wpAnyH_take (i := 3) (oi := ⟨(some 43), _, _, _, _, _⟩) (v := undef) rfl (by kernel_rfl) (by kernel_rfl) (by kernel_rfl) (fun _ _ _ h => h) (Or.inr ⟨by rfl, rfl⟩) (by assumption) ?_); (try simp only [Act.put, List.setIfInBounds_toArray, List.set_cons_zero, List.set_cons_succ])) | ((refine wpAnyH_take (i := 3) (oi := ⟨(some 43), _, _, _, _, _⟩) (v := ?_) rfl (by kernel_rfl) (by kernel_rfl) (by kernel_rfl) (fun _ _ _ h => h) (Or.inl ⟨by rfl, ?_⟩) (by assumption) ?_; rotate_left; focus ((intro w hSw; (try dsimp only at hSw); go_simp; (try with_reducible rfl)); done)); (try simp only [Act.put, List.setIfInBounds_toArray, List.set_cons_zero, List.set_cons_succ]))
  first | ((refine wpAnyH_take (i := 4) (oi := ⟨(some 44), _, _, _, _, _⟩) (v := undef) rfl (by kernel_rfl) (by kernel_rfl) (by kernel_rfl) (fun _ _ _ h => h) (Or.inr ⟨by rfl, rfl⟩) (by assumption) ?_); (try simp only [Act.put, List.setIfInBounds_toArray, List.set_cons_zero, List.set_cons_succ])) | ((refine wpAnyH_take (i := 4) (oi := ⟨(some 44), _, _, _, _, _⟩) (v := ?_) rfl (by kernel_rfl) (by kernel_rfl) (by kernel_rfl) (fun _ _ _ h => h) (Or.inl ⟨by rfl, ?_⟩) (by assumption) ?_; rotate_left; focus ((intro w hSw; (try dsimp only at hSw); go_simp; (try with_reducible rfl)); done)); (try simp only [Act.put, List.setIfInBounds_toArray, List.set_cons_zero, List.set_cons_succ]))
  first | ((refine wpAnyH_take (i := 5) (oi := ⟨(some 45), _, _, _, _, _⟩) (v := undef) rfl (by kernel_rfl) (by kernel_rfl) (by kernel_rfl) (fun _ _ _ h => h) (Or.inr ⟨by rfl, rfl⟩) (by assumption) ?_); (try simp only [Act.put, List.setIfInBounds_toArray, List.set_cons_zero, List.set_cons_succ])) | ((refine wpAnyH_take (i := 5) (oi := ⟨(some 45), _, _, _, _, _⟩) (v := ?_) rfl (by kernel_rfl) (by kernel_rfl) (by kernel_rfl) (fun _ _ _ h => h) (Or.inl ⟨by rfl, ?_⟩) (by assumption) ?_; rotate_left; focus ((intro w hSw; (try dsimp only at hSw); go_simp; (try with_reducible rfl)); done)); (try simp only [Act.put, List.setIfInBounds_toArray, List.set_cons_zero, List.set_cons_succ]))
  first | ((refine wpAnyH_take (i := 6) (oi := ⟨(some 46), _, _, _, _, _⟩) (v := undef) rfl (by kernel_rfl) (by kernel_rfl) (by kernel_rfl) (fun _ _ _ h => h) (Or.inr ⟨by rfl, rfl⟩) (by assumption) ?_); (try simp only [Act.put, List.setIfInBounds_toArray, List.set_cons_zero, List.set_cons_succ])) | ((refine wpAnyH_take (i := 6) (oi := ⟨(some 46), _, _, _, _, _⟩) (v := ?_) rfl (by kernel_rfl) (by kernel_rfl) (by kernel_rfl) (fun _ _ _ h => h) (Or.inl ⟨by rfl, ?_⟩) (by assumption) ?_; rotate_left; focus ((intro w hSw; (try dsimp only at hSw); go_simp; (try with_reducible rfl)); done)); (try simp only [Act.put, List.setIfInBounds_toArray, List.set_cons_zero, List.set_cons_succ]))
  first | ((refine wpAnyH_take (i := 7) (oi := ⟨(some 47), _, _, _, _, _⟩) (v := undef) rfl (by kernel_rfl) (by kernel_rfl) (by kernel_rfl) (fun _ _ _ h => h) (Or.inr ⟨by rfl, rfl⟩) (by assumption) ?_); (try simp only [Act.put, List.setIfInBounds_toArray, List.set_cons_zero, List.set_cons_succ])) | ((refine wpAnyH_take (i := 7) (oi := ⟨(some 47), _, _, _, _, _⟩) (v := ?_) rfl (by kernel_rfl) (by kernel_rfl) (by kernel_rfl) (fun _ _ _ h => h) (Or.inl ⟨by rfl, ?_⟩) (by assumption) ?_; rotate_left; focus ((intro w hSw; (try dsimp only at hSw); go_simp; (try with_reducible rfl)); done)); (try simp only [Act.put, List.setIfInBounds_toArray, List.set_cons_zero, List.set_cons_succ]))
  first | ((refine wpAnyH_take (i := 9) (oi := ⟨(some 49), _, _, _, _, _⟩) (v := undef) rfl (by kernel_rfl) (by kernel_rfl) (by kernel_rfl) (fun _ _ _ h => h) (Or.inr ⟨by rfl, rfl⟩) (by assumption) ?_); (try simp only [Act.put, List.setIfInBounds_toArray, List.set_cons_zero, List.set_cons_succ])) | ((refine wpAnyH_take (i := 9) (oi := ⟨(some 49), _, _, _, _, _⟩) (v := ?_) rfl (by kernel_rfl) (by kernel_rfl) (by kernel_rfl) (fun _ _ _ h => h) (Or.inl ⟨by rfl, ?_⟩) (by assumption) ?_; rotate_left; focus ((intro w hSw; (try dsimp only at hSw); go_simp; (try with_reducible rfl)); done)); (try simp only [Act.put, List.setIfInBounds_toArray, List.set_cons_zero, List.set_cons_succ]))
  first | ((refine wpAnyH_take (i := 8) (oi := ⟨(some 48), _, _, _, _, _⟩) (v := undef) rfl (by kernel_rfl) (by kernel_rfl) (by kernel_rfl) (fun _ _ _ h => h) (Or.inr ⟨by rfl, rfl⟩) (by assumption) ?_); (try simp only [Act.put, List.setIfInBounds_toArray, List.set_cons_zero, List.set_cons_succ])) | (refine wpAnyH_ready (rs := [8]) (by kernel_rfl) (by simp) ?_; refine AllReadyH.cons (o := ⟨(some 48), _, _, _, _, _⟩) rfl (fun K hK => ?_) AllReadyH.nil; go_simp; ((go_at_call 36; refine (mgrid_any _ _ _ _ _ _ _ _ _ _ (HM3.out.grew (by repeat (first | exact Grew.refl _ | assumption | refine Grew.drew ?_ | refine Grew.alloc ?_ _ | refine Grew.setCell ?_ (by (try simp only [World.size_alloc, World.size_drew]); omega) _ | refine Grew.trans ?_ (by assumption))))).mono ?_; rintro e w4 ⟨rfl, hb⟩; obtain ⟨hc, hf⟩ := hb.facts; have hz := hb.size; (try simp only [World.size_alloc, World.size_drew] at hz); (try (have hcq := fun o => hc (w.heap.size) o (by (try simp only [World.size_alloc, World.size_drew]); omega))); (try (have hq : w.heap.size < w4.heap.size := by omega)))); refine hK.out _ _ (by ((try dsimp only); (refine ⟨?_, ?_, ?_, ?_, ?_, ?_, ?_⟩ <;> first | (go_keep; done) | omega | (simp [go_sem, *]; done) | ((try rw [World.cell?_drew]); (repeat rw [World.cell?_alloc_lt _ _ _ (by (try simp only [World.size_alloc]); omega)]); assumption) | (simp only [World.size_drew, World.size_alloc]; omega) | ((refine Grew.trans ?_ (by assumption)); simp [*]; done) | ((repeat (first | exact Grew.refl _ | assumption | refine Grew.drew ?_ | refine Grew.alloc ?_ _ | refine Grew.setCell ?_ (by (try simp only [World.size_alloc, World.size_drew]); omega) _ | refine Grew.trans ?_ (by assumption))); done)))) (fun hHeldN => ?_); clear hK K hHeld; have hHeld := hHeldN; clear hHeldN; (try dsimp only at hHeld); (try simp only [World.cell?_drew, World.size_drew] at hHeld); (try simp only [Act.put, List.setIfInBounds_toArray, List.set_cons_zero, List.set_cons_succ]))
  first | ((refine wpAnyH_take (i := 10) (oi := ⟨(some 50), _, _, _, _, _⟩) (v := undef) rfl (by kernel_rfl) (by kernel_rfl) (by kernel_rfl) (fun _ _ _ h => h) (Or.inr ⟨by rfl, rfl⟩) (by assumption) ?_); (try simp only [Act.put, List.setIfInBounds_toArray, List.set_cons_zero, List.set_cons_succ])) | ((refine wpAnyH_take (i := 10) (oi := ⟨(some 50), _, _, _, _, _⟩) (v := ?_) rfl (by kernel_rfl) (by kernel_rfl) (by kernel_rfl) (fun _ _ _ h => h) (Or.inl ⟨by rfl, ?_⟩) (by assumption) ?_; rotate_left; focus ((intro w hSw; (try dsimp only at hSw); go_simp; (try with_reducible rfl)); done)); (try simp only [Act.put, List.setIfInBounds_toArray, List.set_cons_zero, List.set_cons_succ]))
  first | ((refine wpAnyH_take (i := 11) (oi := ⟨(some 51), _, _, _, _, _⟩) (v := undef) rfl (by kernel_rfl) (by kernel_rfl) (by kernel_rfl) (fun _ _ _ h => h) (Or.inr ⟨by rfl, rfl⟩) (by assumption) ?_); (try simp only [Act.put, List.setIfInBounds_toArray, List.set_cons_zero, List.set_cons_succ])) | ((refine wpAnyH_take (i := 11) (oi := ⟨(some 51), _, _, _, _, _⟩) (v := ?_) rfl (by kernel_rfl) (by kernel_rfl) (by kernel_rfl) (fun _ _ _ h => h) (Or.inl ⟨by rfl, ?_⟩) (by assumption) ?_; rotate_left; focus ((intro w hSw; (try dsimp only at hSw); go_simp; (try with_reducible rfl)); done)); (try simp only [Act.put, List.setIfInBounds_toArray, List.set_cons_zero, List.set_cons_succ]))
  refine wpAnyH_done (by kernel_rfl) ?_ _
  obtain ⟨hH0, hH1, hH2, hH3, hH4, hH5, hH6⟩ := hHeld
  have hG34 : Grew w3 w4 := (Grew.refl w3).drew.trans hb
  have hz34 := hG34.size
  go_wp2_with (go_at_call 37; refine (rnew_yes _ _ _ _ _ N _ hgr hN).mono ?_; rintro e w5 ⟨⟨RP, RC, rfl, hMR, hRP0, hRC0⟩, hb⟩; obtain ⟨hc, hf⟩ := hb.facts; have hz := hb.size; (try simp only [World.size_alloc, World.size_drew] at hz); (try (have hcq := fun o => hc (w.heap.size) o (by (try simp only [World.size_alloc, World.size_drew]); omega))); (try (have hq : w.heap.size < w5.heap.size := by omega)))
  have hG35 : Grew w3 w5 := hG34.trans (by repeat (first | exact Grew.refl _ | assumption | refine Grew.drew ?_ | refine Grew.alloc ?_ _ | refine Grew.setCell ?_ (by (try simp only [World.size_alloc, World.size_drew]); omega) _ | refine Grew.trans ?_ (by assumption)))
  have hG15 : Grew w1 w5 := hG13.trans hG35
  have HPL : Hid (PlayAt w1 w5 RP RC P0 C0 N W H S X Y (fun _ => 0) 0) := ⟨HM3.out.grew hG35, hMR, by omega, by omega, by omega, by omega, hP0, hC0, fun j _ => by simp, hG15⟩
  have hRP1 : w1.heap.size ≤ RP := by have := hG15.size; omega
  have hRC1 : w1.heap.size ≤ RC := by have := hG15.size; omega
  have e0 : w1.cell? ⟨w.heap.size, 0, none⟩ = some (.int .i64 W) := by simp [go_sem, *]
  have e1 : w1.cell? ⟨w.heap.size, 1, none⟩ = some (.int .i64 H) := by simp [go_sem, *]
  have HGD : Hid (w1.cell? ⟨w.heap.size, 0, none⟩ = some (.int .i64 W) ∧ w1.cell? ⟨w.heap.size, 1, none⟩ = some (.int .i64 H)) := ⟨e0, e1⟩
  clear e0 e1 hMR
  have HG5 : Hid (Grew w w1) := hG01
  go_loopw [7, 56] (fun m i wr => ∃ (k P C : Nat) (c : Nat → Int), k ≤ n ∧ m = .pointer (some ⟨P, 0, none⟩) ∧ i = .int .i64 k ∧ PlayAt w1 wr RP RC P C N W H S X Y c k) (fun m i wr => n - (intOf i).toNat)
  case atStart => exact ⟨0, P0, C0, _, Nat.zero_le _, rfl, by simp, HPL.out.grew (by repeat (first | exact Grew.refl _ | assumption | refine Grew.drew ?_ | refine Grew.alloc ?_ _ | refine Grew.setCell ?_ (by (try simp only [World.size_alloc, World.size_drew]); omega) _ | refine Grew.trans ?_ (by assumption)))⟩
  case round =>
    obtain ⟨k, P, C, c, hk, rfl, rfl, hPl⟩ := hrel
    have HPl : Hid (PlayAt w1 wr RP RC P C N W H S X Y c k) := hPl
    have HEr : Hid (Errs wr ad) := HE1.out.grew hPl.g
    have hzr := hPl.g.size
    have hlts : P < wr.heap.size ∧ C < wr.heap.size ∧ RP < wr.heap.size ∧ RC < wr.heap.size := ⟨hPl.p.hP, hPl.p.hC, hPl.r.hP, hPl.r.hC⟩
    have hnes : P ≠ RP ∧ P ≠ RC ∧ C ≠ RP ∧ C ≠ RC ∧ w1.heap.size ≤ P ∧ w1.heap.size ≤ C := ⟨hPl.n1, hPl.n2, hPl.n3, hPl.n4, hPl.q1, hPl.q2⟩
    have HBD : Hid (∀ j, j < N → 0 ≤ c j ∧ c j ≤ 1000000) := fun j hj => by have := hPl.b j hj; omega
    by_cases hlt : k < n
    · rcases (HB1.out.grew hPl.g) with h0 | ⟨bb, off, rfl, hbb, hcells⟩
      · omega
      obtain ⟨kd, b0, b1, b2, b3, y0, y1, y2, y3, y4⟩ := hcells k hlt
      clear hcells hPl
      by_cases k1 : kd = 1
      · subst k1
        have hGwr : Grew w wr := HG5.out.trans HPl.out.g
        have hwC : w.heap.size ≤ C ∧ w.heap.size ≤ RC := by omega
        go_wp2_with fail
        refine wp_region_held_drew (S := (fun w' => w'.cell? ⟨wr.heap.size, 0, none⟩ = some (.int .i64 1) ∧ w'.cell? ⟨wr.heap.size, 1, none⟩ = some (.int .i64 b0) ∧ w'.cell? ⟨wr.heap.size, 2, none⟩ = some (.int .i64 b1) ∧ w'.cell? ⟨wr.heap.size, 3, none⟩ = some (.int .i64 b2) ∧ w'.cell? ⟨wr.heap.size, 4, none⟩ = some (.int .i64 b3) ∧ wr.heap.size < w'.heap.size ∧ Grew w w')) (by kernel_rfl) (by ((try dsimp only); (refine ⟨?_, ?_, ?_, ?_, ?_, ?_, ?_⟩ <;> first | (go_keep; done) | omega | (simp [go_sem, *]; done) | ((try rw [World.cell?_drew]); (repeat rw [World.cell?_alloc_lt _ _ _ (by (try simp only [World.size_alloc]); omega)]); assumption) | (simp only [World.size_drew, World.size_alloc]; omega) | ((refine Grew.trans ?_ (by assumption)); simp [*]; done) | ((repeat (first | exact Grew.refl _ | assumption | refine Grew.drew ?_ | refine Grew.alloc ?_ _ | refine Grew.setCell ?_ (by (try simp only [World.size_alloc, World.size_drew]); omega) _ | refine Grew.trans ?_ (by assumption))); done)))) (fun hHeld => ?_)
        (try dsimp only at hHeld); (try simp only [World.cell?_drew, World.size_drew] at hHeld)
        first | ((refine wpAnyH_take (i := 0) (oi := ⟨(some 64), _, _, _, _, _⟩) (v := undef) rfl (by kernel_rfl) (by kernel_rfl) (by kernel_rfl) (fun _ _ _ h => h) (Or.inr ⟨by rfl, rfl⟩) (by assumption) ?_); (try simp only [Act.put, List.setIfInBounds_toArray, List.set_cons_zero, List.set_cons_succ])) | ((refine wpAnyH_take (i := 0) (oi := ⟨(some 64), _, _, _, _, _⟩) (v := ?_) rfl (by kernel_rfl) (by kernel_rfl) (by kernel_rfl) (fun _ _ _ h => h) (Or.inl ⟨by rfl, ?_⟩) (by assumption) ?_; rotate_left; focus ((intro w hSw; (try dsimp only at hSw); go_simp; (try with_reducible rfl)); done)); (try simp only [Act.put, List.setIfInBounds_toArray, List.set_cons_zero, List.set_cons_succ]))
        first | ((refine wpAnyH_take (i := 1) (oi := ⟨(some 65), _, _, _, _, _⟩) (v := undef) rfl (by kernel_rfl) (by kernel_rfl) (by kernel_rfl) (fun _ _ _ h => h) (Or.inr ⟨by rfl, rfl⟩) (by assumption) ?_); (try simp only [Act.put, List.setIfInBounds_toArray, List.set_cons_zero, List.set_cons_succ])) | ((refine wpAnyH_take (i := 1) (oi := ⟨(some 65), _, _, _, _, _⟩) (v := ?_) rfl (by kernel_rfl) (by kernel_rfl) (by kernel_rfl) (fun _ _ _ h => h) (Or.inl ⟨by rfl, ?_⟩) (by assumption) ?_; rotate_left; focus ((intro w hSw; (try dsimp only at hSw); go_simp; (try with_reducible rfl)); done)); (try simp only [Act.put, List.setIfInBounds_toArray, List.set_cons_zero, List.set_cons_succ]))
        first | ((refine wpAnyH_take (i := 2) (oi := ⟨(some 66), _, _, _, _, _⟩) (v := undef) rfl (by kernel_rfl) (by kernel_rfl) (by kernel_rfl) (fun _ _ _ h => h) (Or.inr ⟨by rfl, rfl⟩) (by assumption) ?_); (try simp only [Act.put, List.setIfInBounds_toArray, List.set_cons_zero, List.set_cons_succ])) | ((refine wpAnyH_take (i := 2) (oi := ⟨(some 66), _, _, _, _, _⟩) (v := ?_) rfl (by kernel_rfl) (by kernel_rfl) (by kernel_rfl) (fun _ _ _ h => h) (Or.inl ⟨by rfl, ?_⟩) (by assumption) ?_; rotate_left; focus ((intro w hSw; (try dsimp only at hSw); go_simp; (try with_reducible rfl)); done)); (try simp only [Act.put, List.setIfInBounds_toArray, List.set_cons_zero, List.set_cons_succ]))
        first | ((refine wpAnyH_take (i := 4) (oi := ⟨(some 68), _, _, _, _, _⟩) (v := undef) rfl (by kernel_rfl) (by kernel_rfl) (by kernel_rfl) (fun _ _ _ h => h) (Or.inr ⟨by rfl, rfl⟩) (by assumption) ?_); (try simp only [Act.put, List.setIfInBounds_toArray, List.set_cons_zero, List.set_cons_succ])) | ((refine wpAnyH_take (i := 4) (oi := ⟨(some 68), _, _, _, _, _⟩) (v := ?_) rfl (by kernel_rfl) (by kernel_rfl) (by kernel_rfl) (fun _ _ _ h => h) (Or.inl ⟨by rfl, ?_⟩) (by assumption) ?_; rotate_left; focus ((intro w hSw; (try dsimp only at hSw); go_simp; (try with_reducible rfl)); done)); (try simp only [Act.put, List.setIfInBounds_toArray, List.set_cons_zero, List.set_cons_succ]))
        first | ((refine wpAnyH_take (i := 5) (oi := ⟨(some 69), _, _, _, _, _⟩) (v := undef) rfl (by kernel_rfl) (by kernel_rfl) (by kernel_rfl) (fun _ _ _ h => h) (Or.inr ⟨by rfl, rfl⟩) (by assumption) ?_); (try simp only [Act.put, List.setIfInBounds_toArray, List.set_cons_zero, List.set_cons_succ])) | ((refine wpAnyH_take (i := 5) (oi := ⟨(some 69), _, _, _, _, _⟩) (v := ?_) rfl (by kernel_rfl) (by kernel_rfl) (by kernel_rfl) (fun _ _ _ h => h) (Or.inl ⟨by rfl, ?_⟩) (by assumption) ?_; rotate_left; focus ((intro w hSw; (try dsimp only at hSw); go_simp; (try with_reducible rfl)); done)); (try simp only [Act.put, List.setIfInBounds_toArray, List.set_cons_zero, List.set_cons_succ]))
        first | ((refine wpAnyH_take (i := 6) (oi := ⟨(some 70), _, _, _, _, _⟩) (v := undef) rfl (by kernel_rfl) (by kernel_rfl) (by kernel_rfl) (fun _ _ _ h => h) (Or.inr ⟨by rfl, rfl⟩) (by assumption) ?_); (try simp only [Act.put, List.setIfInBounds_toArray, List.set_cons_zero, List.set_cons_succ])) | ((refine wpAnyH_take (i := 6) (oi := ⟨(some 70), _, _, _, _, _⟩) (v := ?_) rfl (by kernel_rfl) (by kernel_rfl) (by kernel_rfl) (fun _ _ _ h => h) (Or.inl ⟨by rfl, ?_⟩) (by assumption) ?_; rotate_left; focus ((intro w hSw; (try dsimp only at hSw); go_simp; (try with_reducible rfl)); done)); (try simp only [Act.put, List.setIfInBounds_toArray, List.set_cons_zero, List.set_cons_succ]))
        first | ((refine wpAnyH_take (i := 3) (oi := ⟨(some 67), _, _, _, _, _⟩) (v := undef) rfl (by kernel_rfl) (by kernel_rfl) (by kernel_rfl) (fun _ _ _ h => h) (Or.inr ⟨by rfl, rfl⟩) (by assumption) ?_); (try simp only [Act.put, List.setIfInBounds_toArray, List.set_cons_zero, List.set_cons_succ])) | (refine wpAnyH_ready (rs := [3]) (by kernel_rfl) (by simp) ?_; refine AllReadyH.cons (o := ⟨(some 67), _, _, _, _, _⟩) rfl (fun K hK => ?_) AllReadyH.nil; go_simp; (first | (go_at_call 21; refine (put_any P C N W H S X Y b0 b1 b2 b3 c _ _ ((HEr.out.grew (by repeat (first | exact Grew.refl _ | assumption | refine Grew.drew ?_ | refine Grew.alloc ?_ _ | refine Grew.setCell ?_ (by (try simp only [World.size_alloc, World.size_drew]); omega) _ | refine Grew.trans ?_ (by assumption)))).cell 1 (by decide)) (HPl.out.p.grew (by repeat (first | exact Grew.refl _ | assumption | refine Grew.drew ?_ | refine Grew.alloc ?_ _ | refine Grew.setCell ?_ (by (try simp only [World.size_alloc, World.size_drew]); omega) _ | refine Grew.trans ?_ (by assumption)))) hgr hN HBD.out).mono ?_; rintro e w6 ⟨⟨v6, rfl, hv6, hM6⟩, hT6⟩; have hz6 := hT6.size; (try simp only [World.size_alloc, World.size_drew] at hz6); have hMR6 := (HPl.out.r.grew (by repeat (first | exact Grew.refl _ | assumption | refine Grew.drew ?_ | refine Grew.alloc ?_ _ | refine Grew.setCell ?_ (by (try simp only [World.size_alloc, World.size_drew]); omega) _ | refine Grew.trans ?_ (by assumption)))).turn hT6 (by omega) (by omega); have hcq := fun o => hT6.facts.1 (wr.heap.size) o (by (try simp only [World.size_alloc, World.size_drew]); omega) (by omega); have hGw6 := hT6.grew (a := w) (by repeat (first | exact Grew.refl _ | assumption | refine Grew.drew ?_ | refine Grew.alloc ?_ _ | refine Grew.setCell ?_ (by (try simp only [World.size_alloc, World.size_drew]); omega) _ | refine Grew.trans ?_ (by assumption))) (by omega); have hG16 := hT6.grew (HPl.out.g.trans (by repeat (first | exact Grew.refl _ | assumption | refine Grew.drew ?_ | refine Grew.alloc ?_ _ | refine Grew.setCell ?_ (by (try simp only [World.size_alloc, World.size_drew]); omega) _ | refine Grew.trans ?_ (by assumption)))) (by omega)) | (go_at_call 38; refine (rput_any RP RC N W H S X Y b0 b1 b2 b3 c _ (hMR6.grew (by repeat (first | exact Grew.refl _ | assumption | refine Grew.drew ?_ | refine Grew.alloc ?_ _ | refine Grew.setCell ?_ (by (try simp only [World.size_alloc, World.size_drew]); omega) _ | refine Grew.trans ?_ (by assumption)))) hgr hN HBD.out).mono ?_; rintro e w7 ⟨⟨v7, rfl, hv7, hM7⟩, hT7⟩; have hz7 := hT7.size; (try simp only [World.size_alloc, World.size_drew] at hz7); have hMP7 := (hM6.grew (by repeat (first | exact Grew.refl _ | assumption | refine Grew.drew ?_ | refine Grew.alloc ?_ _ | refine Grew.setCell ?_ (by (try simp only [World.size_alloc, World.size_drew]); omega) _ | refine Grew.trans ?_ (by assumption)))).turn hT7 (by omega) (by omega); have hv67 := (hv6.grew (by repeat (first | exact Grew.refl _ | assumption | refine Grew.drew ?_ | refine Grew.alloc ?_ _ | refine Grew.setCell ?_ (by (try simp only [World.size_alloc, World.size_drew]); omega) _ | refine Grew.trans ?_ (by assumption)))).turn hT7 (by (try simp only [World.size_alloc, World.size_drew]); omega); have hcq := fun o => hT7.facts.1 (wr.heap.size) o (by (try simp only [World.size_alloc, World.size_drew]); omega) (by omega); have hGw7 := hT7.grew (a := w) (by repeat (first | exact Grew.refl _ | assumption | refine Grew.drew ?_ | refine Grew.alloc ?_ _ | refine Grew.setCell ?_ (by (try simp only [World.size_alloc, World.size_drew]); omega) _ | refine Grew.trans ?_ (by assumption))) (by omega); have hG17 := hT7.grew (hG16.trans (by repeat (first | exact Grew.refl _ | assumption | refine Grew.drew ?_ | refine Grew.alloc ?_ _ | refine Grew.setCell ?_ (by (try simp only [World.size_alloc, World.size_drew]); omega) _ | refine Grew.trans ?_ (by assumption)))) hRC1) | (go_at_call 14; refine (same_eq _ _ _ _ (hv67.ints.grew (by repeat (first | exact Grew.refl _ | assumption | refine Grew.drew ?_ | refine Grew.alloc ?_ _ | refine Grew.setCell ?_ (by (try simp only [World.size_alloc, World.size_drew]); omega) _ | refine Grew.trans ?_ (by assumption)))) (hv7.ints.grew (by repeat (first | exact Grew.refl _ | assumption | refine Grew.drew ?_ | refine Grew.alloc ?_ _ | refine Grew.setCell ?_ (by (try simp only [World.size_alloc, World.size_drew]); omega) _ | refine Grew.trans ?_ (by assumption)))) (by have := passed_le (fresh c (underN W H S X Y b0 b1 b2 b3)) N; omega)).mono ?_; rintro e w8 ⟨rfl, hb⟩; obtain ⟨hc, hf⟩ := hb.facts; have hz := hb.size; (try simp only [World.size_alloc, World.size_drew] at hz); (try (have hcq := fun o => hc (wr.heap.size) o (by (try simp only [World.size_alloc, World.size_drew]); omega))); (try (have hq : wr.heap.size < w8.heap.size := by omega)))); refine hK.out _ _ (by ((try dsimp only); (refine ⟨?_, ?_, ?_, ?_, ?_, ?_, ?_⟩ <;> first | (go_keep; done) | omega | (simp [go_sem, *]; done) | ((try rw [World.cell?_drew]); (repeat rw [World.cell?_alloc_lt _ _ _ (by (try simp only [World.size_alloc]); omega)]); assumption) | (simp only [World.size_drew, World.size_alloc]; omega) | ((refine Grew.trans ?_ (by assumption)); simp [*]; done) | ((repeat (first | exact Grew.refl _ | assumption | refine Grew.drew ?_ | refine Grew.alloc ?_ _ | refine Grew.setCell ?_ (by (try simp only [World.size_alloc, World.size_drew]); omega) _ | refine Grew.trans ?_ (by assumption))); done)))) (fun hHeldN => ?_); clear hK K hHeld; have hHeld := hHeldN; clear hHeldN; (try dsimp only at hHeld); (try simp only [World.cell?_drew, World.size_drew] at hHeld); (try simp only [Act.put, List.setIfInBounds_toArray, List.set_cons_zero, List.set_cons_succ]))
        first | ((refine wpAnyH_take (i := 7) (oi := ⟨(some 71), _, _, _, _, _⟩) (v := undef) rfl (by kernel_rfl) (by kernel_rfl) (by kernel_rfl) (fun _ _ _ h => h) (Or.inr ⟨by rfl, rfl⟩) (by assumption) ?_); (try simp only [Act.put, List.setIfInBounds_toArray, List.set_cons_zero, List.set_cons_succ])) | (refine wpAnyH_ready (rs := [7]) (by kernel_rfl) (by simp) ?_; refine AllReadyH.cons (o := ⟨(some 71), _, _, _, _, _⟩) rfl (fun K hK => ?_) AllReadyH.nil; go_simp; (first | (go_at_call 21; refine (put_any P C N W H S X Y b0 b1 b2 b3 c _ _ ((HEr.out.grew (by repeat (first | exact Grew.refl _ | assumption | refine Grew.drew ?_ | refine Grew.alloc ?_ _ | refine Grew.setCell ?_ (by (try simp only [World.size_alloc, World.size_drew]); omega) _ | refine Grew.trans ?_ (by assumption)))).cell 1 (by decide)) (HPl.out.p.grew (by repeat (first | exact Grew.refl _ | assumption | refine Grew.drew ?_ | refine Grew.alloc ?_ _ | refine Grew.setCell ?_ (by (try simp only [World.size_alloc, World.size_drew]); omega) _ | refine Grew.trans ?_ (by assumption)))) hgr hN HBD.out).mono ?_; rintro e w6 ⟨⟨v6, rfl, hv6, hM6⟩, hT6⟩; have hz6 := hT6.size; (try simp only [World.size_alloc, World.size_drew] at hz6); have hMR6 := (HPl.out.r.grew (by repeat (first | exact Grew.refl _ | assumption | refine Grew.drew ?_ | refine Grew.alloc ?_ _ | refine Grew.setCell ?_ (by (try simp only [World.size_alloc, World.size_drew]); omega) _ | refine Grew.trans ?_ (by assumption)))).turn hT6 (by omega) (by omega); have hcq := fun o => hT6.facts.1 (wr.heap.size) o (by (try simp only [World.size_alloc, World.size_drew]); omega) (by omega); have hGw6 := hT6.grew (a := w) (by repeat (first | exact Grew.refl _ | assumption | refine Grew.drew ?_ | refine Grew.alloc ?_ _ | refine Grew.setCell ?_ (by (try simp only [World.size_alloc, World.size_drew]); omega) _ | refine Grew.trans ?_ (by assumption))) (by omega); have hG16 := hT6.grew (HPl.out.g.trans (by repeat (first | exact Grew.refl _ | assumption | refine Grew.drew ?_ | refine Grew.alloc ?_ _ | refine Grew.setCell ?_ (by (try simp only [World.size_alloc, World.size_drew]); omega) _ | refine Grew.trans ?_ (by assumption)))) (by omega)) | (go_at_call 38; refine (rput_any RP RC N W H S X Y b0 b1 b2 b3 c _ (hMR6.grew (by repeat (first | exact Grew.refl _ | assumption | refine Grew.drew ?_ | refine Grew.alloc ?_ _ | refine Grew.setCell ?_ (by (try simp only [World.size_alloc, World.size_drew]); omega) _ | refine Grew.trans ?_ (by assumption)))) hgr hN HBD.out).mono ?_; rintro e w7 ⟨⟨v7, rfl, hv7, hM7⟩, hT7⟩; have hz7 := hT7.size; (try simp only [World.size_alloc, World.size_drew] at hz7); have hMP7 := (hM6.grew (by repeat (first | exact Grew.refl _ | assumption | refine Grew.drew ?_ | refine Grew.alloc ?_ _ | refine Grew.setCell ?_ (by (try simp only [World.size_alloc, World.size_drew]); omega) _ | refine Grew.trans ?_ (by assumption)))).turn hT7 (by omega) (by omega); have hv67 := (hv6.grew (by repeat (first | exact Grew.refl _ | assumption | refine Grew.drew ?_ | refine Grew.alloc ?_ _ | refine Grew.setCell ?_ (by (try simp only [World.size_alloc, World.size_drew]); omega) _ | refine Grew.trans ?_ (by assumption)))).turn hT7 (by (try simp only [World.size_alloc, World.size_drew]); omega); have hcq := fun o => hT7.facts.1 (wr.heap.size) o (by (try simp only [World.size_alloc, World.size_drew]); omega) (by omega); have hGw7 := hT7.grew (a := w) (by repeat (first | exact Grew.refl _ | assumption | refine Grew.drew ?_ | refine Grew.alloc ?_ _ | refine Grew.setCell ?_ (by (try simp only [World.size_alloc, World.size_drew]); omega) _ | refine Grew.trans ?_ (by assumption))) (by omega); have hG17 := hT7.grew (hG16.trans (by repeat (first | exact Grew.refl _ | assumption | refine Grew.drew ?_ | refine Grew.alloc ?_ _ | refine Grew.setCell ?_ (by (try simp only [World.size_alloc, World.size_drew]); omega) _ | refine Grew.trans ?_ (by assumption)))) hRC1) | (go_at_call 14; refine (same_eq _ _ _ _ (hv67.ints.grew (by repeat (first | exact Grew.refl _ | assumption | refine Grew.drew ?_ | refine Grew.alloc ?_ _ | refine Grew.setCell ?_ (by (try simp only [World.size_alloc, World.size_drew]); omega) _ | refine Grew.trans ?_ (by assumption)))) (hv7.ints.grew (by repeat (first | exact Grew.refl _ | assumption | refine Grew.drew ?_ | refine Grew.alloc ?_ _ | refine Grew.setCell ?_ (by (try simp only [World.size_alloc, World.size_drew]); omega) _ | refine Grew.trans ?_ (by assumption)))) (by have := passed_le (fresh c (underN W H S X Y b0 b1 b2 b3)) N; omega)).mono ?_; rintro e w8 ⟨rfl, hb⟩; obtain ⟨hc, hf⟩ := hb.facts; have hz := hb.size; (try simp only [World.size_alloc, World.size_drew] at hz); (try (have hcq := fun o => hc (wr.heap.size) o (by (try simp only [World.size_alloc, World.size_drew]); omega))); (try (have hq : wr.heap.size < w8.heap.size := by omega)))); refine hK.out _ _ (by ((try dsimp only); (refine ⟨?_, ?_, ?_, ?_, ?_, ?_, ?_⟩ <;> first | (go_keep; done) | omega | (simp [go_sem, *]; done) | ((try rw [World.cell?_drew]); (repeat rw [World.cell?_alloc_lt _ _ _ (by (try simp only [World.size_alloc]); omega)]); assumption) | (simp only [World.size_drew, World.size_alloc]; omega) | ((refine Grew.trans ?_ (by assumption)); simp [*]; done) | ((repeat (first | exact Grew.refl _ | assumption | refine Grew.drew ?_ | refine Grew.alloc ?_ _ | refine Grew.setCell ?_ (by (try simp only [World.size_alloc, World.size_drew]); omega) _ | refine Grew.trans ?_ (by assumption))); done)))) (fun hHeldN => ?_); clear hK K hHeld; have hHeld := hHeldN; clear hHeldN; (try dsimp only at hHeld); (try simp only [World.cell?_drew, World.size_drew] at hHeld); (try simp only [Act.put, List.setIfInBounds_toArray, List.set_cons_zero, List.set_cons_succ]))
        first | ((refine wpAnyH_take (i := 8) (oi := ⟨(some 72), _, _, _, _, _⟩) (v := undef) rfl (by kernel_rfl) (by kernel_rfl) (by kernel_rfl) (fun _ _ _ h => h) (Or.inr ⟨by rfl, rfl⟩) (by assumption) ?_); (try simp only [Act.put, List.setIfInBounds_toArray, List.set_cons_zero, List.set_cons_succ])) | (refine wpAnyH_ready (rs := [8]) (by kernel_rfl) (by simp) ?_; refine AllReadyH.cons (o := ⟨(some 72), _, _, _, _, _⟩) rfl (fun K hK => ?_) AllReadyH.nil; go_simp; (first | (go_at_call 21; refine (put_any P C N W H S X Y b0 b1 b2 b3 c _ _ ((HEr.out.grew (by repeat (first | exact Grew.refl _ | assumption | refine Grew.drew ?_ | refine Grew.alloc ?_ _ | refine Grew.setCell ?_ (by (try simp only [World.size_alloc, World.size_drew]); omega) _ | refine Grew.trans ?_ (by assumption)))).cell 1 (by decide)) (HPl.out.p.grew (by repeat (first | exact Grew.refl _ | assumption | refine Grew.drew ?_ | refine Grew.alloc ?_ _ | refine Grew.setCell ?_ (by (try simp only [World.size_alloc, World.size_drew]); omega) _ | refine Grew.trans ?_ (by assumption)))) hgr hN HBD.out).mono ?_; rintro e w6 ⟨⟨v6, rfl, hv6, hM6⟩, hT6⟩; have hz6 := hT6.size; (try simp only [World.size_alloc, World.size_drew] at hz6); have hMR6 := (HPl.out.r.grew (by repeat (first | exact Grew.refl _ | assumption | refine Grew.drew ?_ | refine Grew.alloc ?_ _ | refine Grew.setCell ?_ (by (try simp only [World.size_alloc, World.size_drew]); omega) _ | refine Grew.trans ?_ (by assumption)))).turn hT6 (by omega) (by omega); have hcq := fun o => hT6.facts.1 (wr.heap.size) o (by (try simp only [World.size_alloc, World.size_drew]); omega) (by omega); have hGw6 := hT6.grew (a := w) (by repeat (first | exact Grew.refl _ | assumption | refine Grew.drew ?_ | refine Grew.alloc ?_ _ | refine Grew.setCell ?_ (by (try simp only [World.size_alloc, World.size_drew]); omega) _ | refine Grew.trans ?_ (by assumption))) (by omega); have hG16 := hT6.grew (HPl.out.g.trans (by repeat (first | exact Grew.refl _ | assumption | refine Grew.drew ?_ | refine Grew.alloc ?_ _ | refine Grew.setCell ?_ (by (try simp only [World.size_alloc, World.size_drew]); omega) _ | refine Grew.trans ?_ (by assumption)))) (by omega)) | (go_at_call 38; refine (rput_any RP RC N W H S X Y b0 b1 b2 b3 c _ (hMR6.grew (by repeat (first | exact Grew.refl _ | assumption | refine Grew.drew ?_ | refine Grew.alloc ?_ _ | refine Grew.setCell ?_ (by (try simp only [World.size_alloc, World.size_drew]); omega) _ | refine Grew.trans ?_ (by assumption)))) hgr hN HBD.out).mono ?_; rintro e w7 ⟨⟨v7, rfl, hv7, hM7⟩, hT7⟩; have hz7 := hT7.size; (try simp only [World.size_alloc, World.size_drew] at hz7); have hMP7 := (hM6.grew (by repeat (first | exact Grew.refl _ | assumption | refine Grew.drew ?_ | refine Grew.alloc ?_ _ | refine Grew.setCell ?_ (by (try simp only [World.size_alloc, World.size_drew]); omega) _ | refine Grew.trans ?_ (by assumption)))).turn hT7 (by omega) (by omega); have hv67 := (hv6.grew (by repeat (first | exact Grew.refl _ | assumption | refine Grew.drew ?_ | refine Grew.alloc ?_ _ | refine Grew.setCell ?_ (by (try simp only [World.size_alloc, World.size_drew]); omega) _ | refine Grew.trans ?_ (by assumption)))).turn hT7 (by (try simp only [World.size_alloc, World.size_drew]); omega); have hcq := fun o => hT7.facts.1 (wr.heap.size) o (by (try simp only [World.size_alloc, World.size_drew]); omega) (by omega); have hGw7 := hT7.grew (a := w) (by repeat (first | exact Grew.refl _ | assumption | refine Grew.drew ?_ | refine Grew.alloc ?_ _ | refine Grew.setCell ?_ (by (try simp only [World.size_alloc, World.size_drew]); omega) _ | refine Grew.trans ?_ (by assumption))) (by omega); have hG17 := hT7.grew (hG16.trans (by repeat (first | exact Grew.refl _ | assumption | refine Grew.drew ?_ | refine Grew.alloc ?_ _ | refine Grew.setCell ?_ (by (try simp only [World.size_alloc, World.size_drew]); omega) _ | refine Grew.trans ?_ (by assumption)))) hRC1) | (go_at_call 14; refine (same_eq _ _ _ _ (hv67.ints.grew (by repeat (first | exact Grew.refl _ | assumption | refine Grew.drew ?_ | refine Grew.alloc ?_ _ | refine Grew.setCell ?_ (by (try simp only [World.size_alloc, World.size_drew]); omega) _ | refine Grew.trans ?_ (by assumption)))) (hv7.ints.grew (by repeat (first | exact Grew.refl _ | assumption | refine Grew.drew ?_ | refine Grew.alloc ?_ _ | refine Grew.setCell ?_ (by (try simp only [World.size_alloc, World.size_drew]); omega) _ | refine Grew.trans ?_ (by assumption)))) (by have := passed_le (fresh c (underN W H S X Y b0 b1 b2 b3)) N; omega)).mono ?_; rintro e w8 ⟨rfl, hb⟩; obtain ⟨hc, hf⟩ := hb.facts; have hz := hb.size; (try simp only [World.size_alloc, World.size_drew] at hz); (try (have hcq := fun o => hc (wr.heap.size) o (by (try simp only [World.size_alloc, World.size_drew]); omega))); (try (have hq : wr.heap.size < w8.heap.size := by omega)))); refine hK.out _ _ (by ((try dsimp only); (refine ⟨?_, ?_, ?_, ?_, ?_, ?_, ?_⟩ <;> first | (go_keep; done) | omega | (simp [go_sem, *]; done) | ((try rw [World.cell?_drew]); (repeat rw [World.cell?_alloc_lt _ _ _ (by (try simp only [World.size_alloc]); omega)]); assumption) | (simp only [World.size_drew, World.size_alloc]; omega) | ((refine Grew.trans ?_ (by assumption)); simp [*]; done) | ((repeat (first | exact Grew.refl _ | assumption | refine Grew.drew ?_ | refine Grew.alloc ?_ _ | refine Grew.setCell ?_ (by (try simp only [World.size_alloc, World.size_drew]); omega) _ | refine Grew.trans ?_ (by assumption))); done)))) (fun hHeldN => ?_); clear hK K hHeld; have hHeld := hHeldN; clear hHeldN; (try dsimp only at hHeld); (try simp only [World.cell?_drew, World.size_drew] at hHeld); (try simp only [Act.put, List.setIfInBounds_toArray, List.set_cons_zero, List.set_cons_succ]))
        first | ((refine wpAnyH_take (i := 9) (oi := ⟨(some 73), _, _, _, _, _⟩) (v := undef) rfl (by kernel_rfl) (by kernel_rfl) (by kernel_rfl) (fun _ _ _ h => h) (Or.inr ⟨by rfl, rfl⟩) (by assumption) ?_); (try simp only [Act.put, List.setIfInBounds_toArray, List.set_cons_zero, List.set_cons_succ])) | ((refine wpAnyH_take (i := 9) (oi := ⟨(some 73), _, _, _, _, _⟩) (v := ?_) rfl (by kernel_rfl) (by kernel_rfl) (by kernel_rfl) (fun _ _ _ h => h) (Or.inl ⟨by rfl, ?_⟩) (by assumption) ?_; rotate_left; focus ((intro w hSw; (try dsimp only at hSw); go_simp; (try with_reducible rfl)); done)); (try simp only [Act.put, List.setIfInBounds_toArray, List.set_cons_zero, List.set_cons_succ]))
        refine wpAnyH_done (by kernel_rfl) ?_ _
        obtain ⟨hH0, hH1, hH2, hH3, hH4, hH5, hH6⟩ := hHeld
        obtain ⟨c', HPy⟩ : ∃ c', Hid (PlayAt w1 w8 RP RC P C N W H S X Y c' (k + 1)) := ⟨_, ⟨hMP7.grew (by repeat (first | exact Grew.refl _ | assumption | refine Grew.drew ?_ | refine Grew.alloc ?_ _ | refine Grew.setCell ?_ (by (try simp only [World.size_alloc, World.size_drew]); omega) _ | refine Grew.trans ?_ (by assumption))), hM7.grew (by repeat (first | exact Grew.refl _ | assumption | refine Grew.drew ?_ | refine Grew.alloc ?_ _ | refine Grew.setCell ?_ (by (try simp only [World.size_alloc, World.size_drew]); omega) _ | refine Grew.trans ?_ (by assumption))), by omega, by omega, by omega, by omega, by omega, by omega, fun j hj => by have := bump_le (f := underN W H S X Y b0 b1 b2 b3) (m := N) (HPl.out.b j hj); push_cast; exact this, hG17.trans (by repeat (first | exact Grew.refl _ | assumption | refine Grew.drew ?_ | refine Grew.alloc ?_ _ | refine Grew.setCell ?_ (by (try simp only [World.size_alloc, World.size_drew]); omega) _ | refine Grew.trans ?_ (by assumption)))⟩⟩
        clear hMP7 hM7 hv67 hv7 hMR6 hM6 hv6 hT6 hT7
        go_wp2_with fail
        (go_at_call 24; refine (blocked_any P C N W H S X Y c' _ (HPy.out.p.grew (by repeat (first | exact Grew.refl _ | assumption | refine Grew.drew ?_ | refine Grew.alloc ?_ _ | refine Grew.setCell ?_ (by (try simp only [World.size_alloc, World.size_drew]); omega) _ | refine Grew.trans ?_ (by assumption)))) hN1).mono ?_; rintro e wa ⟨⟨va, rfl, hva⟩, hb⟩; obtain ⟨hc, hf⟩ := hb.facts; have hz := hb.size; (try simp only [World.size_alloc, World.size_drew] at hz))
        go_wp2_with fail
        (go_at_call 41; refine (rblocked_any RP RC N W H S X Y c' _ (HPy.out.r.grew (by repeat (first | exact Grew.refl _ | assumption | refine Grew.drew ?_ | refine Grew.alloc ?_ _ | refine Grew.setCell ?_ (by (try simp only [World.size_alloc, World.size_drew]); omega) _ | refine Grew.trans ?_ (by assumption)))) hN1).mono ?_; rintro e wb ⟨⟨vb, rfl, hvb⟩, hb⟩; obtain ⟨hc, hf⟩ := hb.facts; have hz := hb.size; (try simp only [World.size_alloc, World.size_drew] at hz))
        go_wp2_with fail
        (go_at_call 14; refine (same_eq _ _ _ _ (hva.grew (by repeat (first | exact Grew.refl _ | assumption | refine Grew.drew ?_ | refine Grew.alloc ?_ _ | refine Grew.setCell ?_ (by (try simp only [World.size_alloc, World.size_drew]); omega) _ | refine Grew.trans ?_ (by assumption)))) (hvb.grew (by repeat (first | exact Grew.refl _ | assumption | refine Grew.drew ?_ | refine Grew.alloc ?_ _ | refine Grew.setCell ?_ (by (try simp only [World.size_alloc, World.size_drew]); omega) _ | refine Grew.trans ?_ (by assumption)))) (by have := passed_le (stood c') N; omega)).mono ?_; rintro e wc ⟨rfl, hb⟩; obtain ⟨hc, hf⟩ := hb.facts; have hz := hb.size; (try simp only [World.size_alloc, World.size_drew] at hz))
        have hGzc : Grew w8 wc := (by repeat (first | exact Grew.refl _ | assumption | refine Grew.drew ?_ | refine Grew.alloc ?_ _ | refine Grew.setCell ?_ (by (try simp only [World.size_alloc, World.size_drew]); omega) _ | refine Grew.trans ?_ (by assumption)))
        have HPc : Hid (PlayAt w1 wc RP RC P C N W H S X Y c' (k + 1)) := HPy.out.grew hGzc
        obtain ⟨Kr, ar5⟩ := HPc.out.r.sl
        go_wp2_with fail
        obtain ⟨wo, hwo⟩ : ∃ wo : World, wo = wr := ⟨_, rfl⟩
        clear hwo
        go_loopw [120] (fun i wr => ∃ j : Nat, j ≤ N ∧ i = .int .i64 j ∧ Grew wc wr) (fun i wr => N - (intOf i).toNat)
        case atStart => exact ⟨0, Nat.zero_le _, by simp, (by repeat (first | exact Grew.refl _ | assumption | refine Grew.drew ?_ | refine Grew.alloc ?_ _ | refine Grew.setCell ?_ (by (try simp only [World.size_alloc, World.size_drew]); omega) _ | refine Grew.trans ?_ (by assumption)))⟩
        case round =>
          obtain ⟨j, hj, rfl, hGj⟩ := hrel
          have HPj : Hid (PlayAt w1 wr RP RC P C N W H S X Y c' (k + 1)) := HPc.out.grew hGj
          by_cases hlj : j < N
          · have hcj : wr.cell? ⟨RC, j, none⟩ = some (.int .i64 (c' j)) := HPj.out.r.cs j hlj
            have hhj : hasN N j = true := by simp [hasN]; omega
            obtain ⟨cj, hcj'⟩ : ∃ cj, cj = c' j := ⟨_, rfl⟩
            rw [← hcj'] at hcj
            have HC1 : Hid (Calls Tryd.prog 22 #[.pointer (some ⟨P, 0, none⟩), .int .i64 j] wr fun e w' => e = .returned (.int .i64 cj) ∧ wr = w') := by
              rw [hcj']; exact count_in P C N j W H S X Y c' wr HPj.out.p hlj
            have HC2 : Hid (Calls Tryd.prog 23 #[.pointer (some ⟨P, 0, none⟩), .int .i64 j] wr fun e w' => e = .returned (.bool (cj == 0)) ∧ wr = w') := by
              rw [hcj']; exact free_in P C N j W H S X Y c' wr HPj.out.p hlj
            clear hcj'
            cases hz0 : (cj == 0)
            all_goals
              rw [hz0] at HC2
              go_wp2_with (first | (go_at_call 22; refine (HC1.out).mono ?_; rintro e w' ⟨rfl, rfl⟩) | (go_at_call 23; refine (HC2.out).mono ?_; rintro e w' ⟨rfl, rfl⟩) | (go_at_call 42; refine (has_any P C N W H S X Y _ c' _ HPj.out.p).mono ?_; rintro e w' ⟨rfl, rfl⟩))
              go_roundw
              case rel => exact ⟨j + 1, by omega, by go_num, (by repeat (first | exact Grew.refl _ | assumption | refine Grew.drew ?_ | refine Grew.alloc ?_ _ | refine Grew.setCell ?_ (by (try simp only [World.size_alloc, World.size_drew]); omega) _ | refine Grew.trans ?_ (by assumption)))⟩
              case measure => simp [intOf]; omega
          · obtain rfl : j = N := by omega
            have hGw1 : Grew w1 wr := HPj.out.g
            have f0 : wr.cell? ⟨w.heap.size, 0, none⟩ = some (.int .i64 W) := (hGw1.facts.1 _ _ hzw).trans HGD.out.1
            have f1 : wr.cell? ⟨w.heap.size, 1, none⟩ = some (.int .i64 H) := (hGw1.facts.1 _ _ hzw).trans HGD.out.2
            have hrun : ∀ _ : hasN j x = (decide (0 ≤ x) && decide (x < j)), True := fun _ => trivial
            by_cases hx0 : 0 ≤ x
            · have d0 : decide (0 ≤ x) = true := by simpa using hx0
              by_cases hx1 : x < j
              · have d1 : decide (x < (j : Int)) = true := by simpa using hx1
                have hh : hasN j x = true := by simp [hasN, d0, d1]
                clear hx0 hx1 hrun
                go_wp2_with (go_at_call 42; refine (has_any P C j W H S X Y _ c' _ HPj.out.p).mono ?_; rintro e w' ⟨rfl, rfl⟩)
                go_roundw
                case rel => exact ⟨k + 1, P, C, c', by omega, rfl, by go_num, HPj.out.grew (by repeat (first | exact Grew.refl _ | assumption | refine Grew.drew ?_ | refine Grew.alloc ?_ _ | refine Grew.setCell ?_ (by (try simp only [World.size_alloc, World.size_drew]); omega) _ | refine Grew.trans ?_ (by assumption)))⟩
                case measure => simp [intOf]; omega
              · have d1 : decide (x < (j : Int)) = false := by simpa using hx1
                have hh : hasN j x = false := by simp [hasN, d1]
                have HH : Hid (hasN j x = false) := hh
                clear hx0 hx1 hrun
                go_wp2_with (first | (go_at_call 42; refine (has_any P C j W H S X Y _ c' _ HPj.out.p).mono ?_; rintro e w' ⟨rfl, rfl⟩) | (go_at_call 23; refine (free_out P C j W H S X Y _ c' _ HPj.out.p HH.out).mono ?_; rintro e w' ⟨rfl, rfl⟩) | (go_at_call 22; refine (count_out P C j W H S X Y _ c' _ HPj.out.p HH.out).mono ?_; rintro e w' ⟨rfl, rfl⟩))
                go_roundw
                case rel => exact ⟨k + 1, P, C, c', by omega, rfl, by go_num, HPj.out.grew (by repeat (first | exact Grew.refl _ | assumption | refine Grew.drew ?_ | refine Grew.alloc ?_ _ | refine Grew.setCell ?_ (by (try simp only [World.size_alloc, World.size_drew]); omega) _ | refine Grew.trans ?_ (by assumption)))⟩
                case measure => simp [intOf]; omega
            · have d0 : decide (0 ≤ x) = false := by simpa using hx0
              have hh : hasN j x = false := by simp [hasN, d0]
              have HH : Hid (hasN j x = false) := hh
              clear hx0 hrun
              go_wp2_with (first | (go_at_call 42; refine (has_any P C j W H S X Y _ c' _ HPj.out.p).mono ?_; rintro e w' ⟨rfl, rfl⟩) | (go_at_call 23; refine (free_out P C j W H S X Y _ c' _ HPj.out.p HH.out).mono ?_; rintro e w' ⟨rfl, rfl⟩) | (go_at_call 22; refine (count_out P C j W H S X Y _ c' _ HPj.out.p HH.out).mono ?_; rintro e w' ⟨rfl, rfl⟩))
              go_roundw
              case rel => exact ⟨k + 1, P, C, c', by omega, rfl, by go_num, HPj.out.grew (by repeat (first | exact Grew.refl _ | assumption | refine Grew.drew ?_ | refine Grew.alloc ?_ _ | refine Grew.setCell ?_ (by (try simp only [World.size_alloc, World.size_drew]); omega) _ | refine Grew.trans ?_ (by assumption)))⟩
              case measure => simp [intOf]; omega
      by_cases k2 : kd = 2
      · subst k2
        cases hany : anyB (fresh c (underN W H S X Y b0 b1 b2 b3)) N
        · have hGwr : Grew w wr := HG5.out.trans HPl.out.g
          have hwC : w.heap.size ≤ C ∧ w.heap.size ≤ RC := by omega
          go_wp2_with fail
          go_at_call 29
          refine (drop_any P C N W H S X Y b0 b1 b2 b3 c _ _ ((HEr.out.grew (by repeat (first | exact Grew.refl _ | assumption | refine Grew.drew ?_ | refine Grew.alloc ?_ _ | refine Grew.setCell ?_ (by (try simp only [World.size_alloc, World.size_drew]); omega) _ | refine Grew.trans ?_ (by assumption)))).cell 1 (by decide)) (HPl.out.p.grew (by repeat (first | exact Grew.refl _ | assumption | refine Grew.drew ?_ | refine Grew.alloc ?_ _ | refine Grew.setCell ?_ (by (try simp only [World.size_alloc, World.size_drew]); omega) _ | refine Grew.trans ?_ (by assumption)))) hgr hN HBD.out hany).mono ?_
          rintro e w6 ⟨⟨v6, rfl, hv6, hM6⟩, hT6⟩
          have hz6 := hT6.size
          (try simp only [World.size_alloc, World.size_drew] at hz6)
          have hMR6 := (HPl.out.r.grew (by repeat (first | exact Grew.refl _ | assumption | refine Grew.drew ?_ | refine Grew.alloc ?_ _ | refine Grew.setCell ?_ (by (try simp only [World.size_alloc, World.size_drew]); omega) _ | refine Grew.trans ?_ (by assumption)))).turn hT6 (by omega) (by omega)
          have hcq := fun o => hT6.facts.1 (wr.heap.size) o (by (try simp only [World.size_alloc, World.size_drew]); omega) (by omega)
          have hG16 := hT6.grew (HPl.out.g.trans (by repeat (first | exact Grew.refl _ | assumption | refine Grew.drew ?_ | refine Grew.alloc ?_ _ | refine Grew.setCell ?_ (by (try simp only [World.size_alloc, World.size_drew]); omega) _ | refine Grew.trans ?_ (by assumption)))) (by omega)
          go_wp2_with fail
          go_at_call 39
          refine (rdrop_any RP RC N W H S X Y b0 b1 b2 b3 c _ (hMR6.grew (by repeat (first | exact Grew.refl _ | assumption | refine Grew.drew ?_ | refine Grew.alloc ?_ _ | refine Grew.setCell ?_ (by (try simp only [World.size_alloc, World.size_drew]); omega) _ | refine Grew.trans ?_ (by assumption)))) hgr hN HBD.out hany).mono ?_
          rintro e w7 ⟨⟨v7, rfl, hv7, hM7⟩, hT7⟩
          have hz7 := hT7.size
          (try simp only [World.size_alloc, World.size_drew] at hz7)
          have hMP7 := (hM6.grew (by repeat (first | exact Grew.refl _ | assumption | refine Grew.drew ?_ | refine Grew.alloc ?_ _ | refine Grew.setCell ?_ (by (try simp only [World.size_alloc, World.size_drew]); omega) _ | refine Grew.trans ?_ (by assumption)))).turn hT7 (by omega) (by omega)
          have hv67 := (hv6.grew (by repeat (first | exact Grew.refl _ | assumption | refine Grew.drew ?_ | refine Grew.alloc ?_ _ | refine Grew.setCell ?_ (by (try simp only [World.size_alloc, World.size_drew]); omega) _ | refine Grew.trans ?_ (by assumption)))).turn hT7 (by (try simp only [World.size_alloc, World.size_drew]); omega)
          have hG17 := hT7.grew (hG16.trans (by repeat (first | exact Grew.refl _ | assumption | refine Grew.drew ?_ | refine Grew.alloc ?_ _ | refine Grew.setCell ?_ (by (try simp only [World.size_alloc, World.size_drew]); omega) _ | refine Grew.trans ?_ (by assumption)))) hRC1
          go_wp2_with fail
          (go_at_call 14; refine (same_eq _ _ _ _ (hv67.ints.grew (by repeat (first | exact Grew.refl _ | assumption | refine Grew.drew ?_ | refine Grew.alloc ?_ _ | refine Grew.setCell ?_ (by (try simp only [World.size_alloc, World.size_drew]); omega) _ | refine Grew.trans ?_ (by assumption)))) (hv7.ints.grew (by repeat (first | exact Grew.refl _ | assumption | refine Grew.drew ?_ | refine Grew.alloc ?_ _ | refine Grew.setCell ?_ (by (try simp only [World.size_alloc, World.size_drew]); omega) _ | refine Grew.trans ?_ (by assumption)))) (by have := passed_le (last c (underN W H S X Y b0 b1 b2 b3)) N; omega)).mono ?_; rintro e w8 ⟨rfl, hb⟩; obtain ⟨hc, hf⟩ := hb.facts; have hz := hb.size; (try simp only [World.size_alloc, World.size_drew] at hz))
          have hbd : ∀ j, j < N → 0 ≤ bump c (underN W H S X Y b0 b1 b2 b3) (-1) N j ∧ bump c (underN W H S X Y b0 b1 b2 b3) (-1) N j ≤ ((k + 1 : Nat) : Int) := fun j hj => by
            have h1 := HPl.out.b j hj
            have h2 := anyB_none hany j hj
            unfold fresh at h2
            unfold bump
            push_cast
            cases hu : underN W H S X Y b0 b1 b2 b3 j
            · simp; omega
            · rw [hu, Bool.true_and, decide_eq_false_iff_not] at h2
              rw [show decide (j < N) = true by simpa using hj]
              simp; omega
          obtain ⟨c', HPy⟩ : ∃ c', Hid (PlayAt w1 w8 RP RC P C N W H S X Y c' (k + 1)) := ⟨_, ⟨hMP7.grew (by repeat (first | exact Grew.refl _ | assumption | refine Grew.drew ?_ | refine Grew.alloc ?_ _ | refine Grew.setCell ?_ (by (try simp only [World.size_alloc, World.size_drew]); omega) _ | refine Grew.trans ?_ (by assumption))), hM7.grew (by repeat (first | exact Grew.refl _ | assumption | refine Grew.drew ?_ | refine Grew.alloc ?_ _ | refine Grew.setCell ?_ (by (try simp only [World.size_alloc, World.size_drew]); omega) _ | refine Grew.trans ?_ (by assumption))), by omega, by omega, by omega, by omega, by omega, by omega, hbd, hG17.trans (by repeat (first | exact Grew.refl _ | assumption | refine Grew.drew ?_ | refine Grew.alloc ?_ _ | refine Grew.setCell ?_ (by (try simp only [World.size_alloc, World.size_drew]); omega) _ | refine Grew.trans ?_ (by assumption)))⟩⟩
          clear hMP7 hM7 hv67 hv7 hMR6 hM6 hv6 hT6 hT7 hbd hany
          go_wp2_with (go_at_call 27; refine (num_nil _).mono ?_; rintro e w' ⟨rfl, rfl⟩)
          go_wp2_with fail
          (go_at_call 24; refine (blocked_any P C N W H S X Y c' _ (HPy.out.p.grew (by repeat (first | exact Grew.refl _ | assumption | refine Grew.drew ?_ | refine Grew.alloc ?_ _ | refine Grew.setCell ?_ (by (try simp only [World.size_alloc, World.size_drew]); omega) _ | refine Grew.trans ?_ (by assumption)))) hN1).mono ?_; rintro e wa ⟨⟨va, rfl, hva⟩, hb⟩; obtain ⟨hc, hf⟩ := hb.facts; have hz := hb.size; (try simp only [World.size_alloc, World.size_drew] at hz))
          go_wp2_with fail
          (go_at_call 41; refine (rblocked_any RP RC N W H S X Y c' _ (HPy.out.r.grew (by repeat (first | exact Grew.refl _ | assumption | refine Grew.drew ?_ | refine Grew.alloc ?_ _ | refine Grew.setCell ?_ (by (try simp only [World.size_alloc, World.size_drew]); omega) _ | refine Grew.trans ?_ (by assumption)))) hN1).mono ?_; rintro e wb ⟨⟨vb, rfl, hvb⟩, hb⟩; obtain ⟨hc, hf⟩ := hb.facts; have hz := hb.size; (try simp only [World.size_alloc, World.size_drew] at hz))
          go_wp2_with fail
          (go_at_call 14; refine (same_eq _ _ _ _ (hva.grew (by repeat (first | exact Grew.refl _ | assumption | refine Grew.drew ?_ | refine Grew.alloc ?_ _ | refine Grew.setCell ?_ (by (try simp only [World.size_alloc, World.size_drew]); omega) _ | refine Grew.trans ?_ (by assumption)))) (hvb.grew (by repeat (first | exact Grew.refl _ | assumption | refine Grew.drew ?_ | refine Grew.alloc ?_ _ | refine Grew.setCell ?_ (by (try simp only [World.size_alloc, World.size_drew]); omega) _ | refine Grew.trans ?_ (by assumption)))) (by have := passed_le (stood c') N; omega)).mono ?_; rintro e wc ⟨rfl, hb⟩; obtain ⟨hc, hf⟩ := hb.facts; have hz := hb.size; (try simp only [World.size_alloc, World.size_drew] at hz))
          have hGzc : Grew w8 wc := (by repeat (first | exact Grew.refl _ | assumption | refine Grew.drew ?_ | refine Grew.alloc ?_ _ | refine Grew.setCell ?_ (by (try simp only [World.size_alloc, World.size_drew]); omega) _ | refine Grew.trans ?_ (by assumption)))
          have HPc : Hid (PlayAt w1 wc RP RC P C N W H S X Y c' (k + 1)) := HPy.out.grew hGzc
          obtain ⟨Kr, ar5⟩ := HPc.out.r.sl
          go_wp2_with fail
          obtain ⟨wo, hwo⟩ : ∃ wo : World, wo = wr := ⟨_, rfl⟩
          clear hwo
          go_loopw [120] (fun i wr => ∃ j : Nat, j ≤ N ∧ i = .int .i64 j ∧ Grew wc wr) (fun i wr => N - (intOf i).toNat)
          case atStart => exact ⟨0, Nat.zero_le _, by simp, (by repeat (first | exact Grew.refl _ | assumption | refine Grew.drew ?_ | refine Grew.alloc ?_ _ | refine Grew.setCell ?_ (by (try simp only [World.size_alloc, World.size_drew]); omega) _ | refine Grew.trans ?_ (by assumption)))⟩
          case round =>
            obtain ⟨j, hj, rfl, hGj⟩ := hrel
            have HPj : Hid (PlayAt w1 wr RP RC P C N W H S X Y c' (k + 1)) := HPc.out.grew hGj
            by_cases hlj : j < N
            · have hcj : wr.cell? ⟨RC, j, none⟩ = some (.int .i64 (c' j)) := HPj.out.r.cs j hlj
              have hhj : hasN N j = true := by simp [hasN]; omega
              obtain ⟨cj, hcj'⟩ : ∃ cj, cj = c' j := ⟨_, rfl⟩
              rw [← hcj'] at hcj
              have HC1 : Hid (Calls Tryd.prog 22 #[.pointer (some ⟨P, 0, none⟩), .int .i64 j] wr fun e w' => e = .returned (.int .i64 cj) ∧ wr = w') := by
                rw [hcj']; exact count_in P C N j W H S X Y c' wr HPj.out.p hlj
              have HC2 : Hid (Calls Tryd.prog 23 #[.pointer (some ⟨P, 0, none⟩), .int .i64 j] wr fun e w' => e = .returned (.bool (cj == 0)) ∧ wr = w') := by
                rw [hcj']; exact free_in P C N j W H S X Y c' wr HPj.out.p hlj
              clear hcj'
              cases hz0 : (cj == 0)
              all_goals
                rw [hz0] at HC2
                go_wp2_with (first | (go_at_call 22; refine (HC1.out).mono ?_; rintro e w' ⟨rfl, rfl⟩) | (go_at_call 23; refine (HC2.out).mono ?_; rintro e w' ⟨rfl, rfl⟩) | (go_at_call 42; refine (has_any P C N W H S X Y _ c' _ HPj.out.p).mono ?_; rintro e w' ⟨rfl, rfl⟩))
                go_roundw
                case rel => exact ⟨j + 1, by omega, by go_num, (by repeat (first | exact Grew.refl _ | assumption | refine Grew.drew ?_ | refine Grew.alloc ?_ _ | refine Grew.setCell ?_ (by (try simp only [World.size_alloc, World.size_drew]); omega) _ | refine Grew.trans ?_ (by assumption)))⟩
                case measure => simp [intOf]; omega
            · obtain rfl : j = N := by omega
              have hGw1 : Grew w1 wr := HPj.out.g
              have f0 : wr.cell? ⟨w.heap.size, 0, none⟩ = some (.int .i64 W) := (hGw1.facts.1 _ _ hzw).trans HGD.out.1
              have f1 : wr.cell? ⟨w.heap.size, 1, none⟩ = some (.int .i64 H) := (hGw1.facts.1 _ _ hzw).trans HGD.out.2
              have hrun : ∀ _ : hasN j x = (decide (0 ≤ x) && decide (x < j)), True := fun _ => trivial
              by_cases hx0 : 0 ≤ x
              · have d0 : decide (0 ≤ x) = true := by simpa using hx0
                by_cases hx1 : x < j
                · have d1 : decide (x < (j : Int)) = true := by simpa using hx1
                  have hh : hasN j x = true := by simp [hasN, d0, d1]
                  clear hx0 hx1 hrun
                  go_wp2_with (go_at_call 42; refine (has_any P C j W H S X Y _ c' _ HPj.out.p).mono ?_; rintro e w' ⟨rfl, rfl⟩)
                  go_roundw
                  case rel => exact ⟨k + 1, P, C, c', by omega, rfl, by go_num, HPj.out.grew (by repeat (first | exact Grew.refl _ | assumption | refine Grew.drew ?_ | refine Grew.alloc ?_ _ | refine Grew.setCell ?_ (by (try simp only [World.size_alloc, World.size_drew]); omega) _ | refine Grew.trans ?_ (by assumption)))⟩
                  case measure => simp [intOf]; omega
                · have d1 : decide (x < (j : Int)) = false := by simpa using hx1
                  have hh : hasN j x = false := by simp [hasN, d1]
                  have HH : Hid (hasN j x = false) := hh
                  clear hx0 hx1 hrun
                  go_wp2_with (first | (go_at_call 42; refine (has_any P C j W H S X Y _ c' _ HPj.out.p).mono ?_; rintro e w' ⟨rfl, rfl⟩) | (go_at_call 23; refine (free_out P C j W H S X Y _ c' _ HPj.out.p HH.out).mono ?_; rintro e w' ⟨rfl, rfl⟩) | (go_at_call 22; refine (count_out P C j W H S X Y _ c' _ HPj.out.p HH.out).mono ?_; rintro e w' ⟨rfl, rfl⟩))
                  go_roundw
                  case rel => exact ⟨k + 1, P, C, c', by omega, rfl, by go_num, HPj.out.grew (by repeat (first | exact Grew.refl _ | assumption | refine Grew.drew ?_ | refine Grew.alloc ?_ _ | refine Grew.setCell ?_ (by (try simp only [World.size_alloc, World.size_drew]); omega) _ | refine Grew.trans ?_ (by assumption)))⟩
                  case measure => simp [intOf]; omega
              · have d0 : decide (0 ≤ x) = false := by simpa using hx0
                have hh : hasN j x = false := by simp [hasN, d0]
                have HH : Hid (hasN j x = false) := hh
                clear hx0 hrun
                go_wp2_with (first | (go_at_call 42; refine (has_any P C j W H S X Y _ c' _ HPj.out.p).mono ?_; rintro e w' ⟨rfl, rfl⟩) | (go_at_call 23; refine (free_out P C j W H S X Y _ c' _ HPj.out.p HH.out).mono ?_; rintro e w' ⟨rfl, rfl⟩) | (go_at_call 22; refine (count_out P C j W H S X Y _ c' _ HPj.out.p HH.out).mono ?_; rintro e w' ⟨rfl, rfl⟩))
                go_roundw
                case rel => exact ⟨k + 1, P, C, c', by omega, rfl, by go_num, HPj.out.grew (by repeat (first | exact Grew.refl _ | assumption | refine Grew.drew ?_ | refine Grew.alloc ?_ _ | refine Grew.setCell ?_ (by (try simp only [World.size_alloc, World.size_drew]); omega) _ | refine Grew.trans ?_ (by assumption)))⟩
                case measure => simp [intOf]; omega
        · go_wp2_with fail
          (go_at_call 29; refine (drop_none P C N W H S X Y b0 b1 b2 b3 c _ _ _ ((HEr.out.grew (by repeat (first | exact Grew.refl _ | assumption | refine Grew.drew ?_ | refine Grew.alloc ?_ _ | refine Grew.setCell ?_ (by (try simp only [World.size_alloc, World.size_drew]); omega) _ | refine Grew.trans ?_ (by assumption)))).cell 1 (by decide)) ((HEr.out.grew (by repeat (first | exact Grew.refl _ | assumption | refine Grew.drew ?_ | refine Grew.alloc ?_ _ | refine Grew.setCell ?_ (by (try simp only [World.size_alloc, World.size_drew]); omega) _ | refine Grew.trans ?_ (by assumption)))).cell 3 (by decide)) (HPl.out.p.grew (by repeat (first | exact Grew.refl _ | assumption | refine Grew.drew ?_ | refine Grew.alloc ?_ _ | refine Grew.setCell ?_ (by (try simp only [World.size_alloc, World.size_drew]); omega) _ | refine Grew.trans ?_ (by assumption)))) hgr hN hany).mono ?_; rintro e w6 ⟨rfl, hb⟩; obtain ⟨hc, hf⟩ := hb.facts; have hz := hb.size; (try simp only [World.size_alloc, World.size_drew] at hz); (try (have hcq := fun o => hc (wr.heap.size) o (by (try simp only [World.size_alloc, World.size_drew]); omega))); (try (have hq : wr.heap.size < w6.heap.size := by omega)))
          go_wp2_with fail
          (go_at_call 39; refine (rdrop_none RP RC N W H S X Y b0 b1 b2 b3 c _ (HPl.out.r.grew (by repeat (first | exact Grew.refl _ | assumption | refine Grew.drew ?_ | refine Grew.alloc ?_ _ | refine Grew.setCell ?_ (by (try simp only [World.size_alloc, World.size_drew]); omega) _ | refine Grew.trans ?_ (by assumption)))) hgr hN HBD.out hany).mono ?_; rintro e w7 ⟨⟨v7, rfl, hv7⟩, hb⟩; obtain ⟨hc, hf⟩ := hb.facts; have hz := hb.size; (try simp only [World.size_alloc, World.size_drew] at hz); (try (have hcq := fun o => hc (wr.heap.size) o (by (try simp only [World.size_alloc, World.size_drew]); omega))); (try (have hq : wr.heap.size < w7.heap.size := by omega)))
          go_wp2_with fail
          (go_at_call 14; refine (same_eq _ _ [] _ ⟨_, _, rfl, .inl rfl⟩ (hv7.grew (by repeat (first | exact Grew.refl _ | assumption | refine Grew.drew ?_ | refine Grew.alloc ?_ _ | refine Grew.setCell ?_ (by (try simp only [World.size_alloc, World.size_drew]); omega) _ | refine Grew.trans ?_ (by assumption)))) (by decide)).mono ?_; rintro e w8 ⟨rfl, hb⟩; obtain ⟨hc, hf⟩ := hb.facts; have hz := hb.size; (try simp only [World.size_alloc, World.size_drew] at hz))
          go_wp2_with fail
          (go_at_call 27; refine (num_None _ ad (HEr.out.grew (by repeat (first | exact Grew.refl _ | assumption | refine Grew.drew ?_ | refine Grew.alloc ?_ _ | refine Grew.setCell ?_ (by (try simp only [World.size_alloc, World.size_drew]); omega) _ | refine Grew.trans ?_ (by assumption))))).mono ?_; rintro e w9 ⟨rfl, hb⟩; obtain ⟨hc, hf⟩ := hb.facts; have hz := hb.size; (try simp only [World.size_alloc, World.size_drew] at hz))
          have HPy : Hid (PlayAt w1 w9 RP RC P C N W H S X Y c (k + 1)) := HPl.out.more.grew (by repeat (first | exact Grew.refl _ | assumption | refine Grew.drew ?_ | refine Grew.alloc ?_ _ | refine Grew.setCell ?_ (by (try simp only [World.size_alloc, World.size_drew]); omega) _ | refine Grew.trans ?_ (by assumption)))
          clear hany hv7
          go_wp2_with fail
          (go_at_call 24; refine (blocked_any P C N W H S X Y c _ (HPy.out.p.grew (by repeat (first | exact Grew.refl _ | assumption | refine Grew.drew ?_ | refine Grew.alloc ?_ _ | refine Grew.setCell ?_ (by (try simp only [World.size_alloc, World.size_drew]); omega) _ | refine Grew.trans ?_ (by assumption)))) hN1).mono ?_; rintro e wa ⟨⟨va, rfl, hva⟩, hb⟩; obtain ⟨hc, hf⟩ := hb.facts; have hz := hb.size; (try simp only [World.size_alloc, World.size_drew] at hz))
          go_wp2_with fail
          (go_at_call 41; refine (rblocked_any RP RC N W H S X Y c _ (HPy.out.r.grew (by repeat (first | exact Grew.refl _ | assumption | refine Grew.drew ?_ | refine Grew.alloc ?_ _ | refine Grew.setCell ?_ (by (try simp only [World.size_alloc, World.size_drew]); omega) _ | refine Grew.trans ?_ (by assumption)))) hN1).mono ?_; rintro e wb ⟨⟨vb, rfl, hvb⟩, hb⟩; obtain ⟨hc, hf⟩ := hb.facts; have hz := hb.size; (try simp only [World.size_alloc, World.size_drew] at hz))
          go_wp2_with fail
          (go_at_call 14; refine (same_eq _ _ _ _ (hva.grew (by repeat (first | exact Grew.refl _ | assumption | refine Grew.drew ?_ | refine Grew.alloc ?_ _ | refine Grew.setCell ?_ (by (try simp only [World.size_alloc, World.size_drew]); omega) _ | refine Grew.trans ?_ (by assumption)))) (hvb.grew (by repeat (first | exact Grew.refl _ | assumption | refine Grew.drew ?_ | refine Grew.alloc ?_ _ | refine Grew.setCell ?_ (by (try simp only [World.size_alloc, World.size_drew]); omega) _ | refine Grew.trans ?_ (by assumption)))) (by have := passed_le (stood c) N; omega)).mono ?_; rintro e wc ⟨rfl, hb⟩; obtain ⟨hc, hf⟩ := hb.facts; have hz := hb.size; (try simp only [World.size_alloc, World.size_drew] at hz))
          have hGzc : Grew w9 wc := (by repeat (first | exact Grew.refl _ | assumption | refine Grew.drew ?_ | refine Grew.alloc ?_ _ | refine Grew.setCell ?_ (by (try simp only [World.size_alloc, World.size_drew]); omega) _ | refine Grew.trans ?_ (by assumption)))
          have HPc : Hid (PlayAt w1 wc RP RC P C N W H S X Y c (k + 1)) := HPy.out.grew hGzc
          obtain ⟨Kr, ar5⟩ := HPc.out.r.sl
          go_wp2_with fail
          obtain ⟨wo, hwo⟩ : ∃ wo : World, wo = wr := ⟨_, rfl⟩
          clear hwo
          go_loopw [120] (fun i wr => ∃ j : Nat, j ≤ N ∧ i = .int .i64 j ∧ Grew wc wr) (fun i wr => N - (intOf i).toNat)
          case atStart => exact ⟨0, Nat.zero_le _, by simp, (by repeat (first | exact Grew.refl _ | assumption | refine Grew.drew ?_ | refine Grew.alloc ?_ _ | refine Grew.setCell ?_ (by (try simp only [World.size_alloc, World.size_drew]); omega) _ | refine Grew.trans ?_ (by assumption)))⟩
          case round =>
            obtain ⟨j, hj, rfl, hGj⟩ := hrel
            have HPj : Hid (PlayAt w1 wr RP RC P C N W H S X Y c (k + 1)) := HPc.out.grew hGj
            by_cases hlj : j < N
            · have hcj : wr.cell? ⟨RC, j, none⟩ = some (.int .i64 (c j)) := HPj.out.r.cs j hlj
              have hhj : hasN N j = true := by simp [hasN]; omega
              obtain ⟨cj, hcj'⟩ : ∃ cj, cj = c j := ⟨_, rfl⟩
              rw [← hcj'] at hcj
              have HC1 : Hid (Calls Tryd.prog 22 #[.pointer (some ⟨P, 0, none⟩), .int .i64 j] wr fun e w' => e = .returned (.int .i64 cj) ∧ wr = w') := by
                rw [hcj']; exact count_in P C N j W H S X Y c wr HPj.out.p hlj
              have HC2 : Hid (Calls Tryd.prog 23 #[.pointer (some ⟨P, 0, none⟩), .int .i64 j] wr fun e w' => e = .returned (.bool (cj == 0)) ∧ wr = w') := by
                rw [hcj']; exact free_in P C N j W H S X Y c wr HPj.out.p hlj
              clear hcj'
              cases hz0 : (cj == 0)
              all_goals
                rw [hz0] at HC2
                go_wp2_with (first | (go_at_call 22; refine (HC1.out).mono ?_; rintro e w' ⟨rfl, rfl⟩) | (go_at_call 23; refine (HC2.out).mono ?_; rintro e w' ⟨rfl, rfl⟩) | (go_at_call 42; refine (has_any P C N W H S X Y _ c _ HPj.out.p).mono ?_; rintro e w' ⟨rfl, rfl⟩))
                go_roundw
                case rel => exact ⟨j + 1, by omega, by go_num, (by repeat (first | exact Grew.refl _ | assumption | refine Grew.drew ?_ | refine Grew.alloc ?_ _ | refine Grew.setCell ?_ (by (try simp only [World.size_alloc, World.size_drew]); omega) _ | refine Grew.trans ?_ (by assumption)))⟩
                case measure => simp [intOf]; omega
            · obtain rfl : j = N := by omega
              have hGw1 : Grew w1 wr := HPj.out.g
              have f0 : wr.cell? ⟨w.heap.size, 0, none⟩ = some (.int .i64 W) := (hGw1.facts.1 _ _ hzw).trans HGD.out.1
              have f1 : wr.cell? ⟨w.heap.size, 1, none⟩ = some (.int .i64 H) := (hGw1.facts.1 _ _ hzw).trans HGD.out.2
              have hrun : ∀ _ : hasN j x = (decide (0 ≤ x) && decide (x < j)), True := fun _ => trivial
              by_cases hx0 : 0 ≤ x
              · have d0 : decide (0 ≤ x) = true := by simpa using hx0
                by_cases hx1 : x < j
                · have d1 : decide (x < (j : Int)) = true := by simpa using hx1
                  have hh : hasN j x = true := by simp [hasN, d0, d1]
                  clear hx0 hx1 hrun
                  go_wp2_with (go_at_call 42; refine (has_any P C j W H S X Y _ c _ HPj.out.p).mono ?_; rintro e w' ⟨rfl, rfl⟩)
                  go_roundw
                  case rel => exact ⟨k + 1, P, C, c, by omega, rfl, by go_num, HPj.out.grew (by repeat (first | exact Grew.refl _ | assumption | refine Grew.drew ?_ | refine Grew.alloc ?_ _ | refine Grew.setCell ?_ (by (try simp only [World.size_alloc, World.size_drew]); omega) _ | refine Grew.trans ?_ (by assumption)))⟩
                  case measure => simp [intOf]; omega
                · have d1 : decide (x < (j : Int)) = false := by simpa using hx1
                  have hh : hasN j x = false := by simp [hasN, d1]
                  have HH : Hid (hasN j x = false) := hh
                  clear hx0 hx1 hrun
                  go_wp2_with (first | (go_at_call 42; refine (has_any P C j W H S X Y _ c _ HPj.out.p).mono ?_; rintro e w' ⟨rfl, rfl⟩) | (go_at_call 23; refine (free_out P C j W H S X Y _ c _ HPj.out.p HH.out).mono ?_; rintro e w' ⟨rfl, rfl⟩) | (go_at_call 22; refine (count_out P C j W H S X Y _ c _ HPj.out.p HH.out).mono ?_; rintro e w' ⟨rfl, rfl⟩))
                  go_roundw
                  case rel => exact ⟨k + 1, P, C, c, by omega, rfl, by go_num, HPj.out.grew (by repeat (first | exact Grew.refl _ | assumption | refine Grew.drew ?_ | refine Grew.alloc ?_ _ | refine Grew.setCell ?_ (by (try simp only [World.size_alloc, World.size_drew]); omega) _ | refine Grew.trans ?_ (by assumption)))⟩
                  case measure => simp [intOf]; omega
              · have d0 : decide (0 ≤ x) = false := by simpa using hx0
                have hh : hasN j x = false := by simp [hasN, d0]
                have HH : Hid (hasN j x = false) := hh
                clear hx0 hrun
                go_wp2_with (first | (go_at_call 42; refine (has_any P C j W H S X Y _ c _ HPj.out.p).mono ?_; rintro e w' ⟨rfl, rfl⟩) | (go_at_call 23; refine (free_out P C j W H S X Y _ c _ HPj.out.p HH.out).mono ?_; rintro e w' ⟨rfl, rfl⟩) | (go_at_call 22; refine (count_out P C j W H S X Y _ c _ HPj.out.p HH.out).mono ?_; rintro e w' ⟨rfl, rfl⟩))
                go_roundw
                case rel => exact ⟨k + 1, P, C, c, by omega, rfl, by go_num, HPj.out.grew (by repeat (first | exact Grew.refl _ | assumption | refine Grew.drew ?_ | refine Grew.alloc ?_ _ | refine Grew.setCell ?_ (by (try simp only [World.size_alloc, World.size_drew]); omega) _ | refine Grew.trans ?_ (by assumption)))⟩
                case measure => simp [intOf]; omega
      by_cases k3 : kd = 3
      · subst k3
        go_wp2_with fail
        (go_at_call 40; refine (clone_any P C N W H S X Y c _ (HPl.out.p.grew (by repeat (first | exact Grew.refl _ | assumption | refine Grew.drew ?_ | refine Grew.alloc ?_ _ | refine Grew.setCell ?_ (by (try simp only [World.size_alloc, World.size_drew]); omega) _ | refine Grew.trans ?_ (by assumption)))) hN0 hN1).mono ?_; rintro e w6 ⟨⟨Q, D, rfl, hMQ, hQ0, hD0⟩, hb⟩; obtain ⟨hc, hf⟩ := hb.facts; have hz := hb.size; (try simp only [World.size_alloc, World.size_drew] at hz); (try (have hcq := fun o => hc (wr.heap.size) o (by (try simp only [World.size_alloc, World.size_drew]); omega))); (try (have hq : wr.heap.size < w6.heap.size := by omega)))
        (try simp only [World.size_alloc, World.size_drew] at hQ0 hD0)
        go_wp2_with fail
        go_at_call 21
        refine (put_any P C N W H S X Y b0 b1 b2 b3 c _ _ ((HEr.out.grew (by repeat (first | exact Grew.refl _ | assumption | refine Grew.drew ?_ | refine Grew.alloc ?_ _ | refine Grew.setCell ?_ (by (try simp only [World.size_alloc, World.size_drew]); omega) _ | refine Grew.trans ?_ (by assumption)))).cell 1 (by decide)) (HPl.out.p.grew (by repeat (first | exact Grew.refl _ | assumption | refine Grew.drew ?_ | refine Grew.alloc ?_ _ | refine Grew.setCell ?_ (by (try simp only [World.size_alloc, World.size_drew]); omega) _ | refine Grew.trans ?_ (by assumption)))) hgr hN HBD.out).mono ?_
        rintro e w7 ⟨⟨v7, rfl, hv7, hM7⟩, hT7⟩
        have HPy : Hid (PlayAt w1 w7 RP RC Q D N W H S X Y c (k + 1)) := ⟨(hMQ.grew (by repeat (first | exact Grew.refl _ | assumption | refine Grew.drew ?_ | refine Grew.alloc ?_ _ | refine Grew.setCell ?_ (by (try simp only [World.size_alloc, World.size_drew]); omega) _ | refine Grew.trans ?_ (by assumption)))).turn hT7 (by omega) (by omega), (HPl.out.r.grew (by repeat (first | exact Grew.refl _ | assumption | refine Grew.drew ?_ | refine Grew.alloc ?_ _ | refine Grew.setCell ?_ (by (try simp only [World.size_alloc, World.size_drew]); omega) _ | refine Grew.trans ?_ (by assumption)))).turn hT7 (by omega) (by omega), by omega, by omega, by omega, by omega, by omega, by omega, fun j hj => by have := HPl.out.b j hj; push_cast; omega, hT7.grew (HPl.out.g.trans (by repeat (first | exact Grew.refl _ | assumption | refine Grew.drew ?_ | refine Grew.alloc ?_ _ | refine Grew.setCell ?_ (by (try simp only [World.size_alloc, World.size_drew]); omega) _ | refine Grew.trans ?_ (by assumption)))) (by omega)⟩
        clear hMQ hv7 hM7 hT7
        go_wp2_with fail
        (go_at_call 24; refine (blocked_any Q D N W H S X Y c _ (HPy.out.p.grew (by repeat (first | exact Grew.refl _ | assumption | refine Grew.drew ?_ | refine Grew.alloc ?_ _ | refine Grew.setCell ?_ (by (try simp only [World.size_alloc, World.size_drew]); omega) _ | refine Grew.trans ?_ (by assumption)))) hN1).mono ?_; rintro e wa ⟨⟨va, rfl, hva⟩, hb⟩; obtain ⟨hc, hf⟩ := hb.facts; have hz := hb.size; (try simp only [World.size_alloc, World.size_drew] at hz))
        go_wp2_with fail
        (go_at_call 41; refine (rblocked_any RP RC N W H S X Y c _ (HPy.out.r.grew (by repeat (first | exact Grew.refl _ | assumption | refine Grew.drew ?_ | refine Grew.alloc ?_ _ | refine Grew.setCell ?_ (by (try simp only [World.size_alloc, World.size_drew]); omega) _ | refine Grew.trans ?_ (by assumption)))) hN1).mono ?_; rintro e wb ⟨⟨vb, rfl, hvb⟩, hb⟩; obtain ⟨hc, hf⟩ := hb.facts; have hz := hb.size; (try simp only [World.size_alloc, World.size_drew] at hz))
        go_wp2_with fail
        (go_at_call 14; refine (same_eq _ _ _ _ (hva.grew (by repeat (first | exact Grew.refl _ | assumption | refine Grew.drew ?_ | refine Grew.alloc ?_ _ | refine Grew.setCell ?_ (by (try simp only [World.size_alloc, World.size_drew]); omega) _ | refine Grew.trans ?_ (by assumption)))) (hvb.grew (by repeat (first | exact Grew.refl _ | assumption | refine Grew.drew ?_ | refine Grew.alloc ?_ _ | refine Grew.setCell ?_ (by (try simp only [World.size_alloc, World.size_drew]); omega) _ | refine Grew.trans ?_ (by assumption)))) (by have := passed_le (stood c) N; omega)).mono ?_; rintro e wc ⟨rfl, hb⟩; obtain ⟨hc, hf⟩ := hb.facts; have hz := hb.size; (try simp only [World.size_alloc, World.size_drew] at hz))
        have hGzc : Grew w7 wc := (by repeat (first | exact Grew.refl _ | assumption | refine Grew.drew ?_ | refine Grew.alloc ?_ _ | refine Grew.setCell ?_ (by (try simp only [World.size_alloc, World.size_drew]); omega) _ | refine Grew.trans ?_ (by assumption)))
        have HPc : Hid (PlayAt w1 wc RP RC Q D N W H S X Y c (k + 1)) := HPy.out.grew hGzc
        obtain ⟨Kr, ar5⟩ := HPc.out.r.sl
        go_wp2_with fail
        obtain ⟨wo, hwo⟩ : ∃ wo : World, wo = wr := ⟨_, rfl⟩
        clear hwo
        go_loopw [120] (fun i wr => ∃ j : Nat, j ≤ N ∧ i = .int .i64 j ∧ Grew wc wr) (fun i wr => N - (intOf i).toNat)
        case atStart => exact ⟨0, Nat.zero_le _, by simp, (by repeat (first | exact Grew.refl _ | assumption | refine Grew.drew ?_ | refine Grew.alloc ?_ _ | refine Grew.setCell ?_ (by (try simp only [World.size_alloc, World.size_drew]); omega) _ | refine Grew.trans ?_ (by assumption)))⟩
        case round =>
          obtain ⟨j, hj, rfl, hGj⟩ := hrel
          have HPj : Hid (PlayAt w1 wr RP RC Q D N W H S X Y c (k + 1)) := HPc.out.grew hGj
          by_cases hlj : j < N
          · have hcj : wr.cell? ⟨RC, j, none⟩ = some (.int .i64 (c j)) := HPj.out.r.cs j hlj
            have hhj : hasN N j = true := by simp [hasN]; omega
            obtain ⟨cj, hcj'⟩ : ∃ cj, cj = c j := ⟨_, rfl⟩
            rw [← hcj'] at hcj
            have HC1 : Hid (Calls Tryd.prog 22 #[.pointer (some ⟨Q, 0, none⟩), .int .i64 j] wr fun e w' => e = .returned (.int .i64 cj) ∧ wr = w') := by
              rw [hcj']; exact count_in Q D N j W H S X Y c wr HPj.out.p hlj
            have HC2 : Hid (Calls Tryd.prog 23 #[.pointer (some ⟨Q, 0, none⟩), .int .i64 j] wr fun e w' => e = .returned (.bool (cj == 0)) ∧ wr = w') := by
              rw [hcj']; exact free_in Q D N j W H S X Y c wr HPj.out.p hlj
            clear hcj'
            cases hz0 : (cj == 0)
            all_goals
              rw [hz0] at HC2
              go_wp2_with (first | (go_at_call 22; refine (HC1.out).mono ?_; rintro e w' ⟨rfl, rfl⟩) | (go_at_call 23; refine (HC2.out).mono ?_; rintro e w' ⟨rfl, rfl⟩) | (go_at_call 42; refine (has_any Q D N W H S X Y _ c _ HPj.out.p).mono ?_; rintro e w' ⟨rfl, rfl⟩))
              go_roundw
              case rel => exact ⟨j + 1, by omega, by go_num, (by repeat (first | exact Grew.refl _ | assumption | refine Grew.drew ?_ | refine Grew.alloc ?_ _ | refine Grew.setCell ?_ (by (try simp only [World.size_alloc, World.size_drew]); omega) _ | refine Grew.trans ?_ (by assumption)))⟩
              case measure => simp [intOf]; omega
          · obtain rfl : j = N := by omega
            have hGw1 : Grew w1 wr := HPj.out.g
            have f0 : wr.cell? ⟨w.heap.size, 0, none⟩ = some (.int .i64 W) := (hGw1.facts.1 _ _ hzw).trans HGD.out.1
            have f1 : wr.cell? ⟨w.heap.size, 1, none⟩ = some (.int .i64 H) := (hGw1.facts.1 _ _ hzw).trans HGD.out.2
            have hrun : ∀ _ : hasN j x = (decide (0 ≤ x) && decide (x < j)), True := fun _ => trivial
            by_cases hx0 : 0 ≤ x
            · have d0 : decide (0 ≤ x) = true := by simpa using hx0
              by_cases hx1 : x < j
              · have d1 : decide (x < (j : Int)) = true := by simpa using hx1
                have hh : hasN j x = true := by simp [hasN, d0, d1]
                clear hx0 hx1 hrun
                go_wp2_with (go_at_call 42; refine (has_any Q D j W H S X Y _ c _ HPj.out.p).mono ?_; rintro e w' ⟨rfl, rfl⟩)
                go_roundw
                case rel => exact ⟨k + 1, Q, D, c, by omega, rfl, by go_num, HPj.out.grew (by repeat (first | exact Grew.refl _ | assumption | refine Grew.drew ?_ | refine Grew.alloc ?_ _ | refine Grew.setCell ?_ (by (try simp only [World.size_alloc, World.size_drew]); omega) _ | refine Grew.trans ?_ (by assumption)))⟩
                case measure => simp [intOf]; omega
              · have d1 : decide (x < (j : Int)) = false := by simpa using hx1
                have hh : hasN j x = false := by simp [hasN, d1]
                have HH : Hid (hasN j x = false) := hh
                clear hx0 hx1 hrun
                go_wp2_with (first | (go_at_call 42; refine (has_any Q D j W H S X Y _ c _ HPj.out.p).mono ?_; rintro e w' ⟨rfl, rfl⟩) | (go_at_call 23; refine (free_out Q D j W H S X Y _ c _ HPj.out.p HH.out).mono ?_; rintro e w' ⟨rfl, rfl⟩) | (go_at_call 22; refine (count_out Q D j W H S X Y _ c _ HPj.out.p HH.out).mono ?_; rintro e w' ⟨rfl, rfl⟩))
                go_roundw
                case rel => exact ⟨k + 1, Q, D, c, by omega, rfl, by go_num, HPj.out.grew (by repeat (first | exact Grew.refl _ | assumption | refine Grew.drew ?_ | refine Grew.alloc ?_ _ | refine Grew.setCell ?_ (by (try simp only [World.size_alloc, World.size_drew]); omega) _ | refine Grew.trans ?_ (by assumption)))⟩
                case measure => simp [intOf]; omega
            · have d0 : decide (0 ≤ x) = false := by simpa using hx0
              have hh : hasN j x = false := by simp [hasN, d0]
              have HH : Hid (hasN j x = false) := hh
              clear hx0 hrun
              go_wp2_with (first | (go_at_call 42; refine (has_any Q D j W H S X Y _ c _ HPj.out.p).mono ?_; rintro e w' ⟨rfl, rfl⟩) | (go_at_call 23; refine (free_out Q D j W H S X Y _ c _ HPj.out.p HH.out).mono ?_; rintro e w' ⟨rfl, rfl⟩) | (go_at_call 22; refine (count_out Q D j W H S X Y _ c _ HPj.out.p HH.out).mono ?_; rintro e w' ⟨rfl, rfl⟩))
              go_roundw
              case rel => exact ⟨k + 1, Q, D, c, by omega, rfl, by go_num, HPj.out.grew (by repeat (first | exact Grew.refl _ | assumption | refine Grew.drew ?_ | refine Grew.alloc ?_ _ | refine Grew.setCell ?_ (by (try simp only [World.size_alloc, World.size_drew]); omega) _ | refine Grew.trans ?_ (by assumption)))⟩
              case measure => simp [intOf]; omega
      have k1' : (kd == 1) = false := by rw [beq_eq_false_iff_ne]; exact k1
      have k2' : (kd == 2) = false := by rw [beq_eq_false_iff_ne]; exact k2
      have k3' : (kd == 3) = false := by rw [beq_eq_false_iff_ne]; exact k3
      have HPz : Hid (PlayAt w1 wr RP RC P C N W H S X Y c (k + 1)) := HPl.out.more
      clear k1 k2 k3
      go_wp2_with fail
      (go_at_call 24; refine (blocked_any P C N W H S X Y c _ (HPz.out.p.grew (by repeat (first | exact Grew.refl _ | assumption | refine Grew.drew ?_ | refine Grew.alloc ?_ _ | refine Grew.setCell ?_ (by (try simp only [World.size_alloc, World.size_drew]); omega) _ | refine Grew.trans ?_ (by assumption)))) hN1).mono ?_; rintro e wa ⟨⟨va, rfl, hva⟩, hb⟩; obtain ⟨hc, hf⟩ := hb.facts; have hz := hb.size; (try simp only [World.size_alloc, World.size_drew] at hz))
      go_wp2_with fail
      (go_at_call 41; refine (rblocked_any RP RC N W H S X Y c _ (HPz.out.r.grew (by repeat (first | exact Grew.refl _ | assumption | refine Grew.drew ?_ | refine Grew.alloc ?_ _ | refine Grew.setCell ?_ (by (try simp only [World.size_alloc, World.size_drew]); omega) _ | refine Grew.trans ?_ (by assumption)))) hN1).mono ?_; rintro e wb ⟨⟨vb, rfl, hvb⟩, hb⟩; obtain ⟨hc, hf⟩ := hb.facts; have hz := hb.size; (try simp only [World.size_alloc, World.size_drew] at hz))
      go_wp2_with fail
      (go_at_call 14; refine (same_eq _ _ _ _ (hva.grew (by repeat (first | exact Grew.refl _ | assumption | refine Grew.drew ?_ | refine Grew.alloc ?_ _ | refine Grew.setCell ?_ (by (try simp only [World.size_alloc, World.size_drew]); omega) _ | refine Grew.trans ?_ (by assumption)))) (hvb.grew (by repeat (first | exact Grew.refl _ | assumption | refine Grew.drew ?_ | refine Grew.alloc ?_ _ | refine Grew.setCell ?_ (by (try simp only [World.size_alloc, World.size_drew]); omega) _ | refine Grew.trans ?_ (by assumption)))) (by have := passed_le (stood c) N; omega)).mono ?_; rintro e wc ⟨rfl, hb⟩; obtain ⟨hc, hf⟩ := hb.facts; have hz := hb.size; (try simp only [World.size_alloc, World.size_drew] at hz))
      have hGzc : Grew wr wc := (by repeat (first | exact Grew.refl _ | assumption | refine Grew.drew ?_ | refine Grew.alloc ?_ _ | refine Grew.setCell ?_ (by (try simp only [World.size_alloc, World.size_drew]); omega) _ | refine Grew.trans ?_ (by assumption)))
      have HPc : Hid (PlayAt w1 wc RP RC P C N W H S X Y c (k + 1)) := HPz.out.grew hGzc
      obtain ⟨Kr, ar5⟩ := HPc.out.r.sl
      go_wp2_with fail
      obtain ⟨wo, hwo⟩ : ∃ wo : World, wo = wr := ⟨_, rfl⟩
      clear hwo
      go_loopw [120] (fun i wr => ∃ j : Nat, j ≤ N ∧ i = .int .i64 j ∧ Grew wc wr) (fun i wr => N - (intOf i).toNat)
      case atStart => exact ⟨0, Nat.zero_le _, by simp, (by repeat (first | exact Grew.refl _ | assumption | refine Grew.drew ?_ | refine Grew.alloc ?_ _ | refine Grew.setCell ?_ (by (try simp only [World.size_alloc, World.size_drew]); omega) _ | refine Grew.trans ?_ (by assumption)))⟩
      case round =>
        obtain ⟨j, hj, rfl, hGj⟩ := hrel
        have HPj : Hid (PlayAt w1 wr RP RC P C N W H S X Y c (k + 1)) := HPc.out.grew hGj
        by_cases hlj : j < N
        · have hcj : wr.cell? ⟨RC, j, none⟩ = some (.int .i64 (c j)) := HPj.out.r.cs j hlj
          have hhj : hasN N j = true := by simp [hasN]; omega
          obtain ⟨cj, hcj'⟩ : ∃ cj, cj = c j := ⟨_, rfl⟩
          rw [← hcj'] at hcj
          have HC1 : Hid (Calls Tryd.prog 22 #[.pointer (some ⟨P, 0, none⟩), .int .i64 j] wr fun e w' => e = .returned (.int .i64 cj) ∧ wr = w') := by
            rw [hcj']; exact count_in P C N j W H S X Y c wr HPj.out.p hlj
          have HC2 : Hid (Calls Tryd.prog 23 #[.pointer (some ⟨P, 0, none⟩), .int .i64 j] wr fun e w' => e = .returned (.bool (cj == 0)) ∧ wr = w') := by
            rw [hcj']; exact free_in P C N j W H S X Y c wr HPj.out.p hlj
          clear hcj'
          cases hz0 : (cj == 0)
          all_goals
            rw [hz0] at HC2
            go_wp2_with (first | (go_at_call 22; refine (HC1.out).mono ?_; rintro e w' ⟨rfl, rfl⟩) | (go_at_call 23; refine (HC2.out).mono ?_; rintro e w' ⟨rfl, rfl⟩) | (go_at_call 42; refine (has_any P C N W H S X Y _ c _ HPj.out.p).mono ?_; rintro e w' ⟨rfl, rfl⟩))
            go_roundw
            case rel => exact ⟨j + 1, by omega, by go_num, (by repeat (first | exact Grew.refl _ | assumption | refine Grew.drew ?_ | refine Grew.alloc ?_ _ | refine Grew.setCell ?_ (by (try simp only [World.size_alloc, World.size_drew]); omega) _ | refine Grew.trans ?_ (by assumption)))⟩
            case measure => simp [intOf]; omega
        · obtain rfl : j = N := by omega
          have hGw1 : Grew w1 wr := HPj.out.g
          have f0 : wr.cell? ⟨w.heap.size, 0, none⟩ = some (.int .i64 W) := (hGw1.facts.1 _ _ hzw).trans HGD.out.1
          have f1 : wr.cell? ⟨w.heap.size, 1, none⟩ = some (.int .i64 H) := (hGw1.facts.1 _ _ hzw).trans HGD.out.2
          have hrun : ∀ _ : hasN j x = (decide (0 ≤ x) && decide (x < j)), True := fun _ => trivial
          by_cases hx0 : 0 ≤ x
          · have d0 : decide (0 ≤ x) = true := by simpa using hx0
            by_cases hx1 : x < j
            · have d1 : decide (x < (j : Int)) = true := by simpa using hx1
              have hh : hasN j x = true := by simp [hasN, d0, d1]
              clear hx0 hx1 hrun
              go_wp2_with (go_at_call 42; refine (has_any P C j W H S X Y _ c _ HPj.out.p).mono ?_; rintro e w' ⟨rfl, rfl⟩)
              go_roundw
              case rel => exact ⟨k + 1, P, C, c, by omega, rfl, by go_num, HPj.out.grew (by repeat (first | exact Grew.refl _ | assumption | refine Grew.drew ?_ | refine Grew.alloc ?_ _ | refine Grew.setCell ?_ (by (try simp only [World.size_alloc, World.size_drew]); omega) _ | refine Grew.trans ?_ (by assumption)))⟩
              case measure => simp [intOf]; omega
            · have d1 : decide (x < (j : Int)) = false := by simpa using hx1
              have hh : hasN j x = false := by simp [hasN, d1]
              have HH : Hid (hasN j x = false) := hh
              clear hx0 hx1 hrun
              go_wp2_with (first | (go_at_call 42; refine (has_any P C j W H S X Y _ c _ HPj.out.p).mono ?_; rintro e w' ⟨rfl, rfl⟩) | (go_at_call 23; refine (free_out P C j W H S X Y _ c _ HPj.out.p HH.out).mono ?_; rintro e w' ⟨rfl, rfl⟩) | (go_at_call 22; refine (count_out P C j W H S X Y _ c _ HPj.out.p HH.out).mono ?_; rintro e w' ⟨rfl, rfl⟩))
              go_roundw
              case rel => exact ⟨k + 1, P, C, c, by omega, rfl, by go_num, HPj.out.grew (by repeat (first | exact Grew.refl _ | assumption | refine Grew.drew ?_ | refine Grew.alloc ?_ _ | refine Grew.setCell ?_ (by (try simp only [World.size_alloc, World.size_drew]); omega) _ | refine Grew.trans ?_ (by assumption)))⟩
              case measure => simp [intOf]; omega
          · have d0 : decide (0 ≤ x) = false := by simpa using hx0
            have hh : hasN j x = false := by simp [hasN, d0]
            have HH : Hid (hasN j x = false) := hh
            clear hx0 hrun
            go_wp2_with (first | (go_at_call 42; refine (has_any P C j W H S X Y _ c _ HPj.out.p).mono ?_; rintro e w' ⟨rfl, rfl⟩) | (go_at_call 23; refine (free_out P C j W H S X Y _ c _ HPj.out.p HH.out).mono ?_; rintro e w' ⟨rfl, rfl⟩) | (go_at_call 22; refine (count_out P C j W H S X Y _ c _ HPj.out.p HH.out).mono ?_; rintro e w' ⟨rfl, rfl⟩))
            go_roundw
            case rel => exact ⟨k + 1, P, C, c, by omega, rfl, by go_num, HPj.out.grew (by repeat (first | exact Grew.refl _ | assumption | refine Grew.drew ?_ | refine Grew.alloc ?_ _ | refine Grew.setCell ?_ (by (try simp only [World.size_alloc, World.size_drew]); omega) _ | refine Grew.trans ?_ (by assumption)))⟩
            case measure => simp [intOf]; omega
    · go_wp2_with fail
      go_ret
      exact ⟨rfl, HG5.out.trans (HPl.out.g.trans (by repeat (first | exact Grew.refl _ | assumption | refine Grew.drew ?_ | refine Grew.alloc ?_ _ | refine Grew.setCell ?_ (by (try simp only [World.size_alloc, World.size_drew]); omega) _ | refine Grew.trans ?_ (by assumption))))⟩
end Go.Proofs.YtbgbfljbjpbinaaDoor

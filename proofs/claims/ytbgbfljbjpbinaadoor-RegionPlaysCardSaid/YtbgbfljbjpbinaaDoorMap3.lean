/- The walk of (*tiles.Map).Put. Conditions: the map's cells, small counts, the sentinel's cell. -/
import Derived.Test.YtbgbfljbjpbinaaDoorMap1
import Derived.Deep.LoopGhost
import Derived.Deep.RegionHeld3
namespace Go.Proofs.YtbgbfljbjpbinaaDoor
set_option linter.unusedSimpArgs false
set_option linter.unusedVariables false
open Go.RowKit

/-- The tiles of a box that were free. -/
def fresh (c : Nat → Int) (f : Nat → Bool) : Nat → Bool := fun k => f k && decide (c k = 0)

set_option maxRecDepth 100000 in
set_option maxHeartbeats 8000000 in
theorem put_core (P C N : Nat) (W H S X Y b0 b1 b2 b3 : Int) (c : Nat → Int) (f : Nat → Bool) (w : World) (hM : MapAt w P C N W H S X Y c) (hN : N ≤ 1024) (hc : ∀ k, k < N → 0 ≤ c k ∧ c k ≤ 1000000)
    (hU : ∀ w1, Grew w w1 → Calls Tryd.prog 15 #[.agg #[.int .i64 W, .int .i64 H, .int .i64 S, .int .i64 X, .int .i64 Y], .agg #[.int .i64 b0, .int .i64 b1, .int .i64 b2, .int .i64 b3]] w1 fun e w' => (∃ v, e = .returned v ∧ NewInts w' v (passed f N) w1.heap.size) ∧ Grew w1 w') :
    Calls Tryd.prog 21 #[.pointer (some ⟨P, 0, none⟩), .agg #[.int .i64 b0, .int .i64 b1, .int .i64 b2, .int .i64 b3]] w fun e w' => (∃ v, e = .returned v ∧ NewInts w' v (passed (fresh c f) N) w.heap.size ∧ MapAt w' P C N W H S X Y (bump c f 1 N)) ∧ Turn C w w' := by
  have HU : Hid _ := hU
  have HC : Hid (∀ k, k < N → 0 ≤ c k ∧ c k ≤ 1000000) := hc
  have HM : Hid (MapAt w P C N W H S X Y c) := hM
  obtain ⟨g0, g1, g2, g3, g4, ⟨K, gs⟩, _, _, hne, hP, hC⟩ := hM
  have hne' : C ≠ P := fun e => hne e.symm
  clear hU hc
  obtain ⟨i0, hi0, hi1, hi2, hi3⟩ := info_parts infoInt
  go_enter Tryd.func21, Tryd.ntmps21
  go_wp2_with fail
  refine wp_region_held_drew (S := (fun w' => w'.cell? ⟨P, 0, none⟩ = some (.int .i64 W) ∧ w'.cell? ⟨P, 1, none⟩ = some (.int .i64 H) ∧ w'.cell? ⟨P, 2, none⟩ = some (.int .i64 S) ∧ w'.cell? ⟨P, 3, none⟩ = some (.int .i64 X) ∧ w'.cell? ⟨P, 4, none⟩ = some (.int .i64 Y) ∧ w'.cell? ⟨P, 5, none⟩ = some ((.slice (some ⟨C, 0, none⟩) N K)) ∧ w'.cell? ⟨w.heap.size, 0, none⟩ = some (.int .i64 b0) ∧ w'.cell? ⟨w.heap.size, 1, none⟩ = some (.int .i64 b1) ∧ w'.cell? ⟨w.heap.size, 2, none⟩ = some (.int .i64 b2) ∧ w'.cell? ⟨w.heap.size, 3, none⟩ = some (.int .i64 b3) ∧ P < w'.heap.size ∧ w.heap.size < w'.heap.size ∧ Grew w w')) (by kernel_rfl) (by ((try dsimp only); (refine ⟨?_, ?_, ?_, ?_, ?_, ?_, ?_, ?_, ?_, ?_, ?_, ?_, ?_⟩ <;> first | (go_keep; done) | omega | (simp [go_sem, *]; done) | ((try rw [World.cell?_drew]); (repeat rw [World.cell?_alloc_lt _ _ _ (by (try simp only [World.size_alloc]); omega)]); assumption) | (simp only [World.size_drew, World.size_alloc]; omega) | ((refine Grew.trans ?_ (by assumption)); simp [*]; done) | ((repeat (first | exact Grew.refl _ | assumption | refine Grew.drew ?_ | refine Grew.alloc ?_ _ | refine Grew.setCell ?_ (by (try simp only [World.size_alloc, World.size_drew]); omega) _ | refine Grew.trans ?_ (by assumption))); done)))) (fun hHeld => ?_)
  (try dsimp only at hHeld); (try simp only [World.cell?_drew, World.size_drew] at hHeld)
  first | ((refine wpAnyH_take (i := 0) (oi := ⟨(some 8), _, _, _, _, _⟩) (v := undef) rfl (by kernel_rfl) (by kernel_rfl) (by kernel_rfl) (fun _ _ _ h => h) (Or.inr ⟨by rfl, rfl⟩) (by assumption) ?_); (try simp only [Act.put, List.setIfInBounds_toArray, List.set_cons_zero, List.set_cons_succ])) | ((refine wpAnyH_take (i := 0) (oi := ⟨(some 8), _, _, _, _, _⟩) (v := ?_) rfl (by kernel_rfl) (by kernel_rfl) (by kernel_rfl) (fun _ _ _ h => h) (Or.inl ⟨by rfl, ?_⟩) (by assumption) ?_; rotate_left; focus ((intro w hSw; (try dsimp only at hSw); go_simp; (try with_reducible rfl)); done)); (try simp only [Act.put, List.setIfInBounds_toArray, List.set_cons_zero, List.set_cons_succ]))
  first | ((refine wpAnyH_take (i := 1) (oi := ⟨(some 9), _, _, _, _, _⟩) (v := undef) rfl (by kernel_rfl) (by kernel_rfl) (by kernel_rfl) (fun _ _ _ h => h) (Or.inr ⟨by rfl, rfl⟩) (by assumption) ?_); (try simp only [Act.put, List.setIfInBounds_toArray, List.set_cons_zero, List.set_cons_succ])) | ((refine wpAnyH_take (i := 1) (oi := ⟨(some 9), _, _, _, _, _⟩) (v := ?_) rfl (by kernel_rfl) (by kernel_rfl) (by kernel_rfl) (fun _ _ _ h => h) (Or.inl ⟨by rfl, ?_⟩) (by assumption) ?_; rotate_left; focus ((intro w hSw; (try dsimp only at hSw); go_simp; (try with_reducible rfl)); done)); (try simp only [Act.put, List.setIfInBounds_toArray, List.set_cons_zero, List.set_cons_succ]))
  first | ((refine wpAnyH_take (i := 2) (oi := ⟨(some 10), _, _, _, _, _⟩) (v := undef) rfl (by kernel_rfl) (by kernel_rfl) (by kernel_rfl) (fun _ _ _ h => h) (Or.inr ⟨by rfl, rfl⟩) (by assumption) ?_); (try simp only [Act.put, List.setIfInBounds_toArray, List.set_cons_zero, List.set_cons_succ])) | ((refine wpAnyH_take (i := 2) (oi := ⟨(some 10), _, _, _, _, _⟩) (v := ?_) rfl (by kernel_rfl) (by kernel_rfl) (by kernel_rfl) (fun _ _ _ h => h) (Or.inl ⟨by rfl, ?_⟩) (by assumption) ?_; rotate_left; focus ((intro w hSw; (try dsimp only at hSw); go_simp; (try with_reducible rfl)); done)); (try simp only [Act.put, List.setIfInBounds_toArray, List.set_cons_zero, List.set_cons_succ]))
  first | ((refine wpAnyH_take (i := 3) (oi := ⟨(some 11), _, _, _, _, _⟩) (v := undef) rfl (by kernel_rfl) (by kernel_rfl) (by kernel_rfl) (fun _ _ _ h => h) (Or.inr ⟨by rfl, rfl⟩) (by assumption) ?_); (try simp only [Act.put, List.setIfInBounds_toArray, List.set_cons_zero, List.set_cons_succ])) | ((refine wpAnyH_take (i := 3) (oi := ⟨(some 11), _, _, _, _, _⟩) (v := ?_) rfl (by kernel_rfl) (by kernel_rfl) (by kernel_rfl) (fun _ _ _ h => h) (Or.inl ⟨by rfl, ?_⟩) (by assumption) ?_; rotate_left; focus ((intro w hSw; (try dsimp only at hSw); go_simp; (try with_reducible rfl)); done)); (try simp only [Act.put, List.setIfInBounds_toArray, List.set_cons_zero, List.set_cons_succ]))
  first | ((refine wpAnyH_take (i := 4) (oi := ⟨(some 12), _, _, _, _, _⟩) (v := undef) rfl (by kernel_rfl) (by kernel_rfl) (by kernel_rfl) (fun _ _ _ h => h) (Or.inr ⟨by rfl, rfl⟩) (by assumption) ?_); (try simp only [Act.put, List.setIfInBounds_toArray, List.set_cons_zero, List.set_cons_succ])) | ((refine wpAnyH_take (i := 4) (oi := ⟨(some 12), _, _, _, _, _⟩) (v := ?_) rfl (by kernel_rfl) (by kernel_rfl) (by kernel_rfl) (fun _ _ _ h => h) (Or.inl ⟨by rfl, ?_⟩) (by assumption) ?_; rotate_left; focus ((intro w hSw; (try dsimp only at hSw); go_simp; (try with_reducible rfl)); done)); (try simp only [Act.put, List.setIfInBounds_toArray, List.set_cons_zero, List.set_cons_succ]))
  first | ((refine wpAnyH_take (i := 7) (oi := ⟨(some 15), _, _, _, _, _⟩) (v := undef) rfl (by kernel_rfl) (by kernel_rfl) (by kernel_rfl) (fun _ _ _ h => h) (Or.inr ⟨by rfl, rfl⟩) (by assumption) ?_); (try simp only [Act.put, List.setIfInBounds_toArray, List.set_cons_zero, List.set_cons_succ])) | ((refine wpAnyH_take (i := 7) (oi := ⟨(some 15), _, _, _, _, _⟩) (v := ?_) rfl (by kernel_rfl) (by kernel_rfl) (by kernel_rfl) (fun _ _ _ h => h) (Or.inl ⟨by rfl, ?_⟩) (by assumption) ?_; rotate_left; focus ((intro w hSw; (try dsimp only at hSw); go_simp; (try with_reducible rfl)); done)); (try simp only [Act.put, List.setIfInBounds_toArray, List.set_cons_zero, List.set_cons_succ]))
  first | ((refine wpAnyH_take (i := 5) (oi := ⟨(some 13), _, _, _, _, _⟩) (v := undef) rfl (by kernel_rfl) (by kernel_rfl) (by kernel_rfl) (fun _ _ _ h => h) (Or.inr ⟨by rfl, rfl⟩) (by assumption) ?_); (try simp only [Act.put, List.setIfInBounds_toArray, List.set_cons_zero, List.set_cons_succ])) | (refine wpAnyH_ready (rs := [5]) (by kernel_rfl) (by simp) ?_; refine AllReadyH.cons (o := ⟨(some 13), _, _, _, _, _⟩) rfl (fun K hK => ?_) AllReadyH.nil; go_simp; ((go_at_call 15; refine (HU.out _ (by repeat (first | exact Grew.refl _ | assumption | refine Grew.drew ?_ | refine Grew.alloc ?_ _ | refine Grew.setCell ?_ (by (try simp only [World.size_alloc, World.size_drew]); omega) _ | refine Grew.trans ?_ (by assumption)))).mono ?_; rintro e w1 ⟨⟨v, rfl, ⟨ao, cap, rfl, hv⟩⟩, hb⟩; obtain ⟨hc, hf⟩ := hb.facts; have hz := hb.size; (try simp only [World.size_alloc, World.size_drew] at hz); (try (have hcq := fun o => hc (w.heap.size) o (by (try simp only [World.size_alloc, World.size_drew]); omega))); (try (have hcq := fun o => hc (P) o (by (try simp only [World.size_alloc, World.size_drew]); omega))); (try (have hq : w.heap.size < w1.heap.size := by omega)); (try (have hq : P < w1.heap.size := by omega)))); refine hK.out _ _ (by ((try dsimp only); (refine ⟨?_, ?_, ?_, ?_, ?_, ?_, ?_, ?_, ?_, ?_, ?_, ?_, ?_⟩ <;> first | (go_keep; done) | omega | (simp [go_sem, *]; done) | ((try rw [World.cell?_drew]); (repeat rw [World.cell?_alloc_lt _ _ _ (by (try simp only [World.size_alloc]); omega)]); assumption) | (simp only [World.size_drew, World.size_alloc]; omega) | ((refine Grew.trans ?_ (by assumption)); simp [*]; done) | ((repeat (first | exact Grew.refl _ | assumption | refine Grew.drew ?_ | refine Grew.alloc ?_ _ | refine Grew.setCell ?_ (by (try simp only [World.size_alloc, World.size_drew]); omega) _ | refine Grew.trans ?_ (by assumption))); done)))) (fun hHeldN => ?_); clear hK K hHeld; have hHeld := hHeldN; clear hHeldN; (try dsimp only at hHeld); (try simp only [World.cell?_drew, World.size_drew] at hHeld); (try simp only [Act.put, List.setIfInBounds_toArray, List.set_cons_zero, List.set_cons_succ]))
  first | ((refine wpAnyH_take (i := 6) (oi := ⟨(some 14), _, _, _, _, _⟩) (v := undef) rfl (by kernel_rfl) (by kernel_rfl) (by kernel_rfl) (fun _ _ _ h => h) (Or.inr ⟨by rfl, rfl⟩) (by assumption) ?_); (try simp only [Act.put, List.setIfInBounds_toArray, List.set_cons_zero, List.set_cons_succ])) | ((refine wpAnyH_take (i := 6) (oi := ⟨(some 14), _, _, _, _, _⟩) (v := ?_) rfl (by kernel_rfl) (by kernel_rfl) (by kernel_rfl) (fun _ _ _ h => h) (Or.inl ⟨by rfl, ?_⟩) (by assumption) ?_; rotate_left; focus ((intro w hSw; (try dsimp only at hSw); go_simp; (try with_reducible rfl)); done)); (try simp only [Act.put, List.setIfInBounds_toArray, List.set_cons_zero, List.set_cons_succ]))
  refine wpAnyH_done (by kernel_rfl) ?_ _
  obtain ⟨hH0, hH1, hH2, hH3, hH4, hH5, hH6, hH7, hH8, hH9, hH10, hH11, hH12⟩ := hHeld
  have hGw : Grew w w1 := (by repeat (first | exact Grew.refl _ | assumption | refine Grew.drew ?_ | refine Grew.alloc ?_ _ | refine Grew.setCell ?_ (by (try simp only [World.size_alloc, World.size_drew]); omega) _ | refine Grew.trans ?_ (by assumption)))
  have hzA := hGw.size
  have hle := passed_le f N
  have hcase : passed f N = [] ∨ ∃ bb, ao = some ⟨bb, 0, none⟩ ∧ w.heap.size ≤ bb ∧ bb < w1.heap.size ∧ ∀ k x, (passed f N)[k]? = some x → w1.cell? ⟨bb, k, none⟩ = some (.int .i64 x) := by
    refine hv.imp id fun ⟨bb, h0, h1, h2, h3⟩ => ⟨bb, h0, ?_, h2, h3⟩
    (try simp only [World.size_drew, World.size_alloc] at h1); omega
  have HV : Hid (passed f N = [] ∨ ∃ bb, ao = some ⟨bb, 0, none⟩ ∧ w.heap.size ≤ bb ∧ bb < w1.heap.size ∧ ∀ k x, (passed f N)[k]? = some x → w1.cell? ⟨bb, k, none⟩ = some (.int .i64 x)) := hcase
  clear hcase hv
  have hM1 : MapAt w1 P C N W H S X Y c := HM.out.grew hGw
  have hC1 : C < w1.heap.size := by omega
  obtain ⟨n, hn⟩ : ∃ n, n = (passed f N).length := ⟨_, rfl⟩
  rw [← hn] at hle ⊢
  have HN : Hid (n = (passed f N).length) := hn
  clear hn
  go_wp2_with fail
  go_loopw [5, 15] (fun v i wr => ∃ m : Nat, m ≤ N ∧ (passed f m).length ≤ n ∧ i = .int .i64 (passed f m).length ∧ Own wr w1.heap.size v (passed (fresh c f) m) ∧ MapAt wr P C N W H S X Y (bump c f 1 m) ∧ Turn C w1 wr) (fun v i wr => n - (intOf i).toNat)
  case atStart =>
    refine ⟨0, Nat.zero_le _, by simp [passed], by simp [passed], Own.nil _ _, ?_, Turn.refl _ _⟩
    exact (hM1.congr fun k _ => by simp [bump]).grew (by repeat (first | exact Grew.refl _ | assumption | refine Grew.drew ?_ | refine Grew.alloc ?_ _ | refine Grew.setCell ?_ (by (try simp only [World.size_alloc, World.size_drew]); omega) _ | refine Grew.trans ?_ (by assumption)))
  case round =>
    obtain ⟨m, hm, hmn, rfl, hO, hMr, hT⟩ := hrel
    obtain ⟨k, hk⟩ : ∃ k, k = (passed f m).length := ⟨_, rfl⟩
    rw [← hk] at hmn ⊢
    have HK : Hid (k = (passed f m).length) := hk
    clear hk
    have HO : Hid (Own wr w1.heap.size _ (passed (fresh c f) m)) := hO
    have HR : Hid (MapAt wr P C N W H S X Y (bump c f 1 m)) := hMr
    have HT : Hid (Turn C w1 wr) := hT
    have hz := hT.size
    obtain ⟨K_a5, a5⟩ := hMr.sl
    have hfz := hMr.fz
    clear hO hMr hT
    by_cases hlt : k < n
    · obtain ⟨t, t0, t1, t2, t3, t4, t5⟩ := passed_next (N := N) hm (by rw [← HK.out, ← HN.out]; exact hlt)
      rw [← HK.out] at t4
      rcases HV.out with hnil | ⟨bb, rfl, hb0, hb1, hbc⟩
      · exfalso; have := HN.out; rw [hnil] at this; simp at this; omega
      have hx : wr.cell? ⟨bb, k, none⟩ = some (.int .i64 t) := (HT.out.facts.1 bb k hb1 (by omega)).trans (hbc k t t4)
      have hct : wr.cell? ⟨C, t, none⟩ = some (.int .i64 (c t)) := by have e := bump_at (c := c) (f := f) (d := 1) t0; rw [← e]; exact HR.out.cs t t1
      obtain ⟨hc0, hc1⟩ := HC.out t t1
      have HG : Hid (f t = true) := t2
      have HL : Hid (∀ k, m ≤ k → k < t → f k = false) := t3
      have H5 : Hid (passed f (t + 1) = passed f m ++ [(t : Int)]) := t5
      have hk1 : (passed f (t + 1)).length = k + 1 := by rw [t5, List.length_append, ← HK.out]; rfl
      have HB : Hid (∀ k, (if k = t then c t + 1 else bump c f 1 m k) = bump c f 1 (t + 1) k) := fun k => bump_next t0 t2 t3 k
      have hskip : passed (fresh c f) t = passed (fresh c f) m := passed_skip t0 fun k k0 k1 => by simp [fresh, t3 k k0 k1]
      clear t2 t3 t4 t5 hbc
      by_cases hzero : c t = 0
      · have hfr : fresh c f t = true := by simp [fresh, HG.out, hzero]
        have HP : Hid (passed (fresh c f) (t + 1) = passed (fresh c f) m ++ [(t : Int)]) := by show _ = _; rw [passed_hit hfr, hskip]
        rw [hzero] at hct
        have hq := HB.out
        rw [hzero] at hq
        have HB2 : Hid (∀ k, (if k = t then (1 : Int) else bump c f 1 m k) = bump c f 1 (t + 1) k) := hq
        clear hfr hskip hq hc0 hc1 hzero HB
        go_wp2_with (at_builtin; refine wpList_append_own _ rfl _ _ 28 rfl w1.heap.size 3 i0 (.int .i64 0) 1 8 Tryd.underlying28 hi0 hi1 hi2 hi3 rfl (by decide) _ _ _ rfl ((HO.out.turn (Turn.setCell (Turn.refl C wr) rfl _) hC1).raw.alloc _) ⟨_, 0, none⟩ 1 1 [.int .i64 t] rfl rfl ?c1 ?c2 ?c3 ?c4 ?c5 ?_)
        case c1 =>
          intro j u hj
          match j, hj with
          | 0, hj =>
            simp at hj; subst hj; simp [Addr.add]
            have e : (wr.setCell ⟨C, t, none⟩ (.int .i64 1)).heap.size = wr.heap.size := by simp
            rw [← e]
            generalize wr.setCell ⟨C, t, none⟩ (.int .i64 1) = wq
            simp
        case c2 => intro u hu; simp at hu; subst hu; rfl
        case c3 => have := passed_le (fresh c f) m; unfold maxLen; omega
        case c4 => have := passed_le (fresh c f) m; omega
        case c5 => simp; omega
        · intro v' w4 hown' hgrow _
          obtain ⟨hO1, hB1⟩ := (HO.out.turn (Turn.setCell (Turn.refl C wr) (p := ⟨C, t, none⟩) rfl (.int .i64 1)) hC1).nextB hown' hgrow (Grew.refl _) (by simp; exact hz)
          rw [← HP.out] at hO1
          have hT4 : Turn C w1 w4 := (HT.out.setCell (p := ⟨C, t, none⟩) rfl (.int .i64 1)).below hB1 (Nat.le_refl _)
          have hM4 : MapAt w4 P C N W H S X Y (bump c f 1 (t + 1)) := ((HR.out.set t t1 1).congr fun k _ => HB2.out k).below hB1 (by omega) (by omega)
          clear hown' hgrow
          go_wp2
          go_roundw
          case rel => exact ⟨t + 1, by omega, by omega, by rw [hk1]; go_num, hO1, hM4, hT4⟩
          case measure => simp [intOf]; omega
      · have hfr : fresh c f t = false := by simp [fresh, hzero]
        have HP : Hid (passed (fresh c f) (t + 1) = passed (fresh c f) m) := by show _ = _; rw [passed_miss hfr, hskip]
        have hz1 : (c t + 1 == 1) = false := by rw [beq_eq_false_iff_ne]; omega
        clear hfr hskip hzero
        go_wp2_with fail
        go_roundw
        case rel => exact ⟨t + 1, by omega, by omega, by rw [hk1]; go_num, by rw [HP.out]; exact HO.out.turn (Turn.setCell (Turn.refl C wr) rfl _) hC1, (HR.out.set t t1 _).congr fun k _ => HB.out k, HT.out.setCell rfl _⟩
        case measure => simp [intOf]; omega
    · obtain ⟨e1, e2⟩ := passed_end hm (by rw [← HK.out, ← HN.out]; exact hlt)
      have e3 : passed (fresh c f) N = passed (fresh c f) m := passed_skip hm fun k k0 k1 => by simp [fresh, e2 k k0 k1]
      have HE : Hid (passed (fresh c f) N = passed (fresh c f) m) := e3
      have H2 : Hid (MapAt wr P C N W H S X Y (bump c f 1 N)) := HR.out.congr fun k hk => by
        unfold bump
        by_cases hkm : k < m
        · rw [show decide (k < m) = true by simpa using hkm, show decide (k < N) = true by simpa using hk]
        · rw [e2 k (by omega) hk]; rfl
      have H3 : Hid (Turn C w wr) := (hGw.turn C).trans HT.out
      clear e1 e2 e3
      go_wp2_with fail
      go_ret
      exact ⟨⟨_, rfl, by rw [HE.out]; exact HO.out.newInts hzA, H2.out⟩, H3.out⟩
end Go.Proofs.YtbgbfljbjpbinaaDoor

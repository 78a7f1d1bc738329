/- The walks of the reference's map: New, Blocked, Drop. Conditions: the map's cells, small counts. -/
import Derived.Test.YtbgbfljbjpbinaaDoorRMap1
import Derived.Test.YtbgbfljbjpbinaaDoorMap4
import Derived.Test.YtbgbfljbjpbinaaDoorMap5
namespace Go.Proofs.YtbgbfljbjpbinaaDoor
set_option linter.unusedSimpArgs false
set_option linter.unusedVariables false
open Go.RowKit

set_option maxRecDepth 100000 in
set_option maxHeartbeats 4000000 in
theorem rnew_yes (W H S X Y : Int) (N : Nat) (w : World) (h : gridB W H S X Y = true) (hN : W * H = N) :
    Calls Tryd.prog 37 #[.agg #[.int .i64 W, .int .i64 H, .int .i64 S, .int .i64 X, .int .i64 Y]] w fun e w' => (∃ P C, e = .returned (.pointer (some ⟨P, 0, none⟩)) ∧ MapAt w' P C N W H S X Y (fun _ => 0) ∧ w.heap.size ≤ P ∧ w.heap.size ≤ C) ∧ Grew w w' := by
  obtain ⟨_, _, _, _, fA⟩ := grid_facts h
  have hN1 : N ≤ 1024 := by omega
  obtain ⟨i0, hi0, hi1, hi2, hi3⟩ := info_parts infoInt
  have hmk : ∀ w : World, (Instr.makeSlice 28 (.int .i64 N) (.int .i64 N)).run Tryd.prog w = .ok (.slice (some ⟨w.heap.size, 0, none⟩) N N) (w.alloc (.cells (madeCells #[.int .i64 0] N) 3)) := fun w => by
    have := run_make (w := w) (P := Tryd.prog) 28 3 i0 (.int .i64 0) Tryd.underlying28 hi0 hi1 .i64 .i64 N N (by omega) (by omega) (by rw [hi3]; omega) (by omega)
    rw [hi2] at this
    simpa [Value.cells] using this
  have hw : IntKind.i64.wrap (N : Int) = N := IntWalk.i64_in _ (by omega)
  clear fA
  go_enter Tryd.func37, Tryd.ntmps37
  go_wp2_with fail
  refine wp_region_held_drew (S := (fun w' => w'.cell? ⟨w.heap.size, 0, none⟩ = some (.int .i64 W) ∧ w'.cell? ⟨w.heap.size, 1, none⟩ = some (.int .i64 H) ∧ w'.cell? ⟨w.heap.size, 2, none⟩ = some (.int .i64 S) ∧ w'.cell? ⟨w.heap.size, 3, none⟩ = some (.int .i64 X) ∧ w'.cell? ⟨w.heap.size, 4, none⟩ = some (.int .i64 Y) ∧ w.heap.size < w'.heap.size ∧ Grew w w')) (by kernel_rfl) (by ((try dsimp only); (refine ⟨?_, ?_, ?_, ?_, ?_, ?_, ?_⟩ <;> first | (go_keep; done) | omega | (simp [go_sem, *]; done) | ((try rw [World.cell?_drew]); (repeat rw [World.cell?_alloc_lt _ _ _ (by (try simp only [World.size_alloc]); omega)]); assumption) | (simp only [World.size_drew, World.size_alloc]; omega) | ((refine Grew.trans ?_ (by assumption)); simp [*]; done) | ((repeat (first | exact Grew.refl _ | assumption | refine Grew.drew ?_ | refine Grew.alloc ?_ _ | refine Grew.setCell ?_ (by (try simp only [World.size_alloc, World.size_drew]); omega) _ | refine Grew.trans ?_ (by assumption))); done)))) (fun hHeld => ?_)
  (try dsimp only at hHeld); (try simp only [World.cell?_drew, World.size_drew] at hHeld)
  first | ((refine wpAnyH_take (i := 0) (oi := ⟨(some 3), _, _, _, _, _⟩) (v := undef) rfl (by kernel_rfl) (by kernel_rfl) (by kernel_rfl) (fun _ _ _ h => h) (Or.inr ⟨by rfl, rfl⟩) (by assumption) ?_); (try simp only [Act.put, List.setIfInBounds_toArray, List.set_cons_zero, List.set_cons_succ])) | ((refine wpAnyH_take (i := 0) (oi := ⟨(some 3), _, _, _, _, _⟩) (v := ?_) rfl (by kernel_rfl) (by kernel_rfl) (by kernel_rfl) (fun _ _ _ h => h) (Or.inl ⟨by rfl, ?_⟩) (by assumption) ?_; rotate_left; focus ((intro w hSw; (try dsimp only at hSw); go_simp; (try with_reducible rfl)); done)); (try simp only [Act.put, List.setIfInBounds_toArray, List.set_cons_zero, List.set_cons_succ]))
  first | ((refine wpAnyH_take (i := 1) (oi := ⟨(some 4), _, _, _, _, _⟩) (v := undef) rfl (by kernel_rfl) (by kernel_rfl) (by kernel_rfl) (fun _ _ _ h => h) (Or.inr ⟨by rfl, rfl⟩) (by assumption) ?_); (try simp only [Act.put, List.setIfInBounds_toArray, List.set_cons_zero, List.set_cons_succ])) | ((refine wpAnyH_take (i := 1) (oi := ⟨(some 4), _, _, _, _, _⟩) (v := ?_) rfl (by kernel_rfl) (by kernel_rfl) (by kernel_rfl) (fun _ _ _ h => h) (Or.inl ⟨by rfl, ?_⟩) (by assumption) ?_; rotate_left; focus ((intro w hSw; (try dsimp only at hSw); go_simp; (try with_reducible rfl)); done)); (try simp only [Act.put, List.setIfInBounds_toArray, List.set_cons_zero, List.set_cons_succ]))
  first | ((refine wpAnyH_take (i := 2) (oi := ⟨(some 5), _, _, _, _, _⟩) (v := undef) rfl (by kernel_rfl) (by kernel_rfl) (by kernel_rfl) (fun _ _ _ h => h) (Or.inr ⟨by rfl, rfl⟩) (by assumption) ?_); (try simp only [Act.put, List.setIfInBounds_toArray, List.set_cons_zero, List.set_cons_succ])) | ((refine wpAnyH_take (i := 2) (oi := ⟨(some 5), _, _, _, _, _⟩) (v := ?_) rfl (by kernel_rfl) (by kernel_rfl) (by kernel_rfl) (fun _ _ _ h => h) (Or.inl ⟨by rfl, ?_⟩) (by assumption) ?_; rotate_left; focus ((intro w hSw; (try dsimp only at hSw); go_simp; (try with_reducible rfl)); done)); (try simp only [Act.put, List.setIfInBounds_toArray, List.set_cons_zero, List.set_cons_succ]))
  first | ((refine wpAnyH_take (i := 3) (oi := ⟨(some 6), _, _, _, _, _⟩) (v := undef) rfl (by kernel_rfl) (by kernel_rfl) (by kernel_rfl) (fun _ _ _ h => h) (Or.inr ⟨by rfl, rfl⟩) (by assumption) ?_); (try simp only [Act.put, List.setIfInBounds_toArray, List.set_cons_zero, List.set_cons_succ])) | ((refine wpAnyH_take (i := 3) (oi := ⟨(some 6), _, _, _, _, _⟩) (v := ?_) rfl (by kernel_rfl) (by kernel_rfl) (by kernel_rfl) (fun _ _ _ h => h) (Or.inl ⟨by rfl, ?_⟩) (by assumption) ?_; rotate_left; focus ((intro w hSw; (try dsimp only at hSw); go_simp; (try with_reducible rfl)); done)); (try simp only [Act.put, List.setIfInBounds_toArray, List.set_cons_zero, List.set_cons_succ]))
  first | ((refine wpAnyH_take (i := 4) (oi := ⟨(some 7), _, _, _, _, _⟩) (v := undef) rfl (by kernel_rfl) (by kernel_rfl) (by kernel_rfl) (fun _ _ _ h => h) (Or.inr ⟨by rfl, rfl⟩) (by assumption) ?_); (try simp only [Act.put, List.setIfInBounds_toArray, List.set_cons_zero, List.set_cons_succ])) | ((refine wpAnyH_take (i := 4) (oi := ⟨(some 7), _, _, _, _, _⟩) (v := ?_) rfl (by kernel_rfl) (by kernel_rfl) (by kernel_rfl) (fun _ _ _ h => h) (Or.inl ⟨by rfl, ?_⟩) (by assumption) ?_; rotate_left; focus ((intro w hSw; (try dsimp only at hSw); go_simp; (try with_reducible rfl)); done)); (try simp only [Act.put, List.setIfInBounds_toArray, List.set_cons_zero, List.set_cons_succ]))
  first | ((refine wpAnyH_take (i := 5) (oi := ⟨(some 8), _, _, _, _, _⟩) (v := undef) rfl (by kernel_rfl) (by kernel_rfl) (by kernel_rfl) (fun _ _ _ h => h) (Or.inr ⟨by rfl, rfl⟩) (by assumption) ?_); (try simp only [Act.put, List.setIfInBounds_toArray, List.set_cons_zero, List.set_cons_succ])) | ((refine wpAnyH_take (i := 5) (oi := ⟨(some 8), _, _, _, _, _⟩) (v := ?_) rfl (by kernel_rfl) (by kernel_rfl) (by kernel_rfl) (fun _ _ _ h => h) (Or.inl ⟨by rfl, ?_⟩) (by assumption) ?_; rotate_left; focus ((intro w hSw; (try dsimp only at hSw); go_simp; (try with_reducible rfl)); done)); (try simp only [Act.put, List.setIfInBounds_toArray, List.set_cons_zero, List.set_cons_succ]))
  first | ((refine wpAnyH_take (i := 6) (oi := ⟨(some 9), _, _, _, _, _⟩) (v := undef) rfl (by kernel_rfl) (by kernel_rfl) (by kernel_rfl) (fun _ _ _ h => h) (Or.inr ⟨by rfl, rfl⟩) (by assumption) ?_); (try simp only [Act.put, List.setIfInBounds_toArray, List.set_cons_zero, List.set_cons_succ])) | (refine wpAnyH_ready (rs := [6]) (by kernel_rfl) (by simp) ?_; refine AllReadyH.cons (o := ⟨(some 9), _, _, _, _, _⟩) rfl (fun K hK => ?_) AllReadyH.nil; go_simp; refine hK.out _ _ (by ((try dsimp only); (refine ⟨?_, ?_, ?_, ?_, ?_, ?_, ?_⟩ <;> first | (go_keep; done) | omega | (simp [go_sem, *]; done) | ((try rw [World.cell?_drew]); (repeat rw [World.cell?_alloc_lt _ _ _ (by (try simp only [World.size_alloc]); omega)]); assumption) | (simp only [World.size_drew, World.size_alloc]; omega) | ((refine Grew.trans ?_ (by assumption)); simp [*]; done) | ((repeat (first | exact Grew.refl _ | assumption | refine Grew.drew ?_ | refine Grew.alloc ?_ _ | refine Grew.setCell ?_ (by (try simp only [World.size_alloc, World.size_drew]); omega) _ | refine Grew.trans ?_ (by assumption))); done)))) (fun hHeldN => ?_); clear hK K hHeld; have hHeld := hHeldN; clear hHeldN; (try dsimp only at hHeld); (try simp only [World.cell?_drew, World.size_drew] at hHeld); (try simp only [hmk]); (try simp only [Act.put, List.setIfInBounds_toArray, List.set_cons_zero, List.set_cons_succ]))
  first | ((refine wpAnyH_take (i := 7) (oi := ⟨(some 10), _, _, _, _, _⟩) (v := undef) rfl (by kernel_rfl) (by kernel_rfl) (by kernel_rfl) (fun _ _ _ h => h) (Or.inr ⟨by rfl, rfl⟩) (by assumption) ?_); (try simp only [Act.put, List.setIfInBounds_toArray, List.set_cons_zero, List.set_cons_succ])) | ((refine wpAnyH_take (i := 7) (oi := ⟨(some 10), _, _, _, _, _⟩) (v := ?_) rfl (by kernel_rfl) (by kernel_rfl) (by kernel_rfl) (fun _ _ _ h => h) (Or.inl ⟨by rfl, ?_⟩) (by assumption) ?_; rotate_left; focus ((intro w hSw; (try dsimp only at hSw); go_simp; (try with_reducible rfl)); done)); (try simp only [Act.put, List.setIfInBounds_toArray, List.set_cons_zero, List.set_cons_succ]))
  first | ((refine wpAnyH_take (i := 8) (oi := ⟨(some 11), _, _, _, _, _⟩) (v := undef) rfl (by kernel_rfl) (by kernel_rfl) (by kernel_rfl) (fun _ _ _ h => h) (Or.inr ⟨by rfl, rfl⟩) (by assumption) ?_); (try simp only [Act.put, List.setIfInBounds_toArray, List.set_cons_zero, List.set_cons_succ])) | (refine wpAnyH_ready (rs := [8]) (by kernel_rfl) (by simp) ?_; refine AllReadyH.cons (o := ⟨(some 11), _, _, _, _, _⟩) rfl (fun K hK => ?_) AllReadyH.nil; go_simp; refine hK.out _ _ (by ((try dsimp only); (refine ⟨?_, ?_, ?_, ?_, ?_, ?_, ?_⟩ <;> first | (go_keep; done) | omega | (simp [go_sem, *]; done) | ((try rw [World.cell?_drew]); (repeat rw [World.cell?_alloc_lt _ _ _ (by (try simp only [World.size_alloc]); omega)]); assumption) | (simp only [World.size_drew, World.size_alloc]; omega) | ((refine Grew.trans ?_ (by assumption)); simp [*]; done) | ((repeat (first | exact Grew.refl _ | assumption | refine Grew.drew ?_ | refine Grew.alloc ?_ _ | refine Grew.setCell ?_ (by (try simp only [World.size_alloc, World.size_drew]); omega) _ | refine Grew.trans ?_ (by assumption))); done)))) (fun hHeldN => ?_); clear hK K hHeld; have hHeld := hHeldN; clear hHeldN; (try dsimp only at hHeld); (try simp only [World.cell?_drew, World.size_drew] at hHeld); (try simp only [hmk]); (try simp only [Act.put, List.setIfInBounds_toArray, List.set_cons_zero, List.set_cons_succ]))
  first | ((refine wpAnyH_take (i := 9) (oi := ⟨(some 2), _, _, _, _, _⟩) (v := undef) rfl (by kernel_rfl) (by kernel_rfl) (by kernel_rfl) (fun _ _ _ h => h) (Or.inr ⟨by rfl, rfl⟩) (by assumption) ?_); (try simp only [Act.put, List.setIfInBounds_toArray, List.set_cons_zero, List.set_cons_succ])) | ((refine wpAnyH_take (i := 9) (oi := ⟨(some 2), _, _, _, _, _⟩) (v := ?_) rfl (by kernel_rfl) (by kernel_rfl) (by kernel_rfl) (fun _ _ _ h => h) (Or.inl ⟨by rfl, ?_⟩) (by assumption) ?_; rotate_left; focus ((intro w hSw; (try dsimp only at hSw); go_simp; (try with_reducible rfl)); done)); (try simp only [Act.put, List.setIfInBounds_toArray, List.set_cons_zero, List.set_cons_succ]))
  refine wpAnyH_done (by kernel_rfl) ?_ _
  obtain ⟨hH0, hH1, hH2, hH3, hH4, hH5, hH6⟩ := hHeld
  go_wp2_with fail
  go_ret
  refine ⟨⟨w.heap.size + 1 + 1, w.heap.size + 1, rfl, ?_, by omega, by omega⟩, (by repeat (first | exact Grew.refl _ | assumption | refine Grew.drew ?_ | refine Grew.alloc ?_ _ | refine Grew.setCell ?_ (by (try simp only [World.size_alloc, World.size_drew]); omega) _ | refine Grew.trans ?_ (by assumption)))⟩
  refine ⟨by simp [go_sem], by simp [go_sem], by simp [go_sem], by simp [go_sem], by simp [go_sem], ⟨N, by simp [go_sem]⟩, fun k hk => ?_, fun o => by simp [go_sem], by omega, by simp, by simp⟩
  simp [go_sem, made_int hk]

set_option maxRecDepth 100000 in
set_option maxHeartbeats 4000000 in
theorem rblocked_any (P C N : Nat) (W H S X Y : Int) (c : Nat → Int) (w : World) (hM : MapAt w P C N W H S X Y c) (hN : N ≤ 1024) :
    Calls Tryd.prog 41 #[.pointer (some ⟨P, 0, none⟩)] w fun e w' => (∃ v, e = .returned v ∧ IntsAt w' v (passed (stood c) N)) ∧ Grew w w' := by
  have HC : Hid (∀ k, k < N → w.cell? ⟨C, k, none⟩ = some (.int .i64 (c k))) := hM.cs
  obtain ⟨K_hsl, hsl⟩ := hM.sl
  have hCw := hM.hC
  have hPw := hM.hP
  clear hM
  obtain ⟨i0, hi0, hi1, hi2, hi3⟩ := info_parts infoInt
  go_enter Tryd.func41, Tryd.ntmps41
  go_wp2_with fail
  go_loopw [3, 12] (fun v i wr => ∃ k : Nat, k ≤ N ∧ i = .int .i64 k ∧ Own wr w.heap.size v (passed (stood c) k) ∧ Grew w wr) (fun v i wr => N - (intOf i).toNat)
  case atStart => exact ⟨0, Nat.zero_le _, by simp, (OutAt.start w w.heap.size).own, (by repeat (first | exact Grew.refl _ | assumption | refine Grew.drew ?_ | refine Grew.alloc ?_ _ | refine Grew.setCell ?_ (by (try simp only [World.size_alloc, World.size_drew]); omega) _ | refine Grew.trans ?_ (by assumption)))⟩
  case round =>
    obtain ⟨k, hk, rfl, hO, hG⟩ := hrel
    have HO : Hid (Own wr w.heap.size _ (passed (stood c) k)) := hO
    clear hO
    have hz := hG.size
    by_cases hlt : k < N
    · have hcell : wr.cell? ⟨C, k, none⟩ = some (.int .i64 (c k)) := (hG.facts.1 _ _ hCw).trans (HC.out k hlt)
      by_cases hp : 0 < c k
      · have hd : decide (0 < c k) = true := by simpa using hp
        have HP : Hid (passed (stood c) (k + 1) = passed (stood c) k ++ [(k : Int)]) := passed_hit (by simp [stood, hp])
        clear hp
        go_wp2_with (at_builtin; refine wpList_append_own _ rfl _ _ 28 rfl w.heap.size 3 i0 (.int .i64 0) 1 8 Tryd.underlying28 hi0 hi1 hi2 hi3 rfl (by decide) _ _ _ rfl (HO.out.raw.alloc _) ⟨_, 0, none⟩ 1 1 [.int .i64 k] rfl rfl ?c1 ?c2 ?c3 ?c4 ?c5 ?_)
        case c1 =>
          intro j u hj
          match j, hj with
          | 0, hj => simp at hj; subst hj; simp [Addr.add]
        case c2 => intro u hu; simp at hu; subst hu; rfl
        case c3 => have := passed_le (stood c) k; unfold maxLen; omega
        case c4 => have := passed_le (stood c) k; omega
        case c5 => simp; omega
        · intro v' w4 hown' hgrow _
          obtain ⟨hO1, hG1, hB1⟩ := HO.out.next (a := w) hown' hgrow (Grew.refl _) hG (Nat.le_refl _) hz
          rw [← HP.out] at hO1
          clear hown' hgrow
          go_wp2
          go_roundw
          case rel => exact ⟨k + 1, by omega, by go_num, hO1, hG1⟩
          case measure => simp [intOf]; omega
      · have hd : decide (0 < c k) = false := by simpa using hp
        have HP : Hid (passed (stood c) (k + 1) = passed (stood c) k) := passed_miss (by simp [stood]; omega)
        clear hp
        go_wp2_with fail
        go_roundw
        case rel => exact ⟨k + 1, by omega, by go_num, by rw [HP.out]; exact HO.out.grew (by repeat (first | exact Grew.refl _ | assumption | refine Grew.drew ?_ | refine Grew.alloc ?_ _ | refine Grew.setCell ?_ (by (try simp only [World.size_alloc, World.size_drew]); omega) _ | refine Grew.trans ?_ (by assumption))), (by repeat (first | exact Grew.refl _ | assumption | refine Grew.drew ?_ | refine Grew.alloc ?_ _ | refine Grew.setCell ?_ (by (try simp only [World.size_alloc, World.size_drew]); omega) _ | refine Grew.trans ?_ (by assumption)))⟩
        case measure => simp [intOf]; omega
    · obtain rfl : k = N := by omega
      go_wp2_with fail
      go_ret
      exact ⟨⟨_, rfl, HO.out.ints.grew (by repeat (first | exact Grew.refl _ | assumption | refine Grew.drew ?_ | refine Grew.alloc ?_ _ | refine Grew.setCell ?_ (by (try simp only [World.size_alloc, World.size_drew]); omega) _ | refine Grew.trans ?_ (by assumption)))⟩, (by repeat (first | exact Grew.refl _ | assumption | refine Grew.drew ?_ | refine Grew.alloc ?_ _ | refine Grew.setCell ?_ (by (try simp only [World.size_alloc, World.size_drew]); omega) _ | refine Grew.trans ?_ (by assumption)))⟩
set_option maxRecDepth 100000 in
set_option maxHeartbeats 8000000 in
theorem rdrop_no (P C N : Nat) (W H S X Y b0 b1 b2 b3 : Int) (c : Nat → Int) (f : Nat → Bool) (w : World) (hM : MapAt w P C N W H S X Y c) (hN : N ≤ 1024) (hc : ∀ k, k < N → 0 ≤ c k ∧ c k ≤ 1000000)
    (hU : ∀ w1, Grew w w1 → Calls Tryd.prog 16 #[.agg #[.int .i64 W, .int .i64 H, .int .i64 S, .int .i64 X, .int .i64 Y], .agg #[.int .i64 b0, .int .i64 b1, .int .i64 b2, .int .i64 b3]] w1 fun e w' => (∃ v, e = .returned v ∧ NewInts w' v (passed f N) w1.heap.size) ∧ Grew w1 w') (hany : anyB (fresh c f) N = true) :
    Calls Tryd.prog 39 #[.pointer (some ⟨P, 0, none⟩), .agg #[.int .i64 b0, .int .i64 b1, .int .i64 b2, .int .i64 b3]] w fun e w' => (∃ v, e = .returned (.tuple #[v, .int .i64 3]) ∧ IntsAt w' v []) ∧ Grew w w' := by
  have HU : Hid _ := hU
  have HC : Hid (∀ k, k < N → 0 ≤ c k ∧ c k ≤ 1000000) := hc
  have HM : Hid (MapAt w P C N W H S X Y c) := hM
  obtain ⟨g0, g1, g2, g3, g4, ⟨K, gs⟩, _, _, hne, hP, hC⟩ := hM
  have hne' : C ≠ P := fun e => hne e.symm
  clear hU hc
  obtain ⟨i0, hi0, hi1, hi2, hi3⟩ := info_parts infoInt
  go_enter Tryd.func39, Tryd.ntmps39
  go_wp2_with fail
  refine wp_region_held_drew (S := (fun w' => w'.cell? ⟨P, 0, none⟩ = some (.int .i64 W) ∧ w'.cell? ⟨P, 1, none⟩ = some (.int .i64 H) ∧ w'.cell? ⟨P, 2, none⟩ = some (.int .i64 S) ∧ w'.cell? ⟨P, 3, none⟩ = some (.int .i64 X) ∧ w'.cell? ⟨P, 4, none⟩ = some (.int .i64 Y) ∧ w'.cell? ⟨P, 5, none⟩ = some ((.slice (some ⟨C, 0, none⟩) N K)) ∧ w'.cell? ⟨w.heap.size, 0, none⟩ = some (.int .i64 b0) ∧ w'.cell? ⟨w.heap.size, 1, none⟩ = some (.int .i64 b1) ∧ w'.cell? ⟨w.heap.size, 2, none⟩ = some (.int .i64 b2) ∧ w'.cell? ⟨w.heap.size, 3, none⟩ = some (.int .i64 b3) ∧ P < w'.heap.size ∧ w.heap.size < w'.heap.size ∧ Grew w w')) (by kernel_rfl) (by ((try dsimp only); (refine ⟨?_, ?_, ?_, ?_, ?_, ?_, ?_, ?_, ?_, ?_, ?_, ?_, ?_⟩ <;> first | (go_keep; done) | omega | (simp [go_sem, *]; done) | ((try rw [World.cell?_drew]); (repeat rw [World.cell?_alloc_lt _ _ _ (by (try simp only [World.size_alloc]); omega)]); assumption) | (simp only [World.size_drew, World.size_alloc]; omega) | ((refine Grew.trans ?_ (by assumption)); simp [*]; done) | ((repeat (first | exact Grew.refl _ | assumption | refine Grew.drew ?_ | refine Grew.alloc ?_ _ | refine Grew.setCell ?_ (by (try simp only [World.size_alloc, World.size_drew]); omega) _ | refine Grew.trans ?_ (by assumption))); done)))) (fun hHeld => ?_)
  (try dsimp only at hHeld); (try simp only [World.cell?_drew, World.size_drew] at hHeld)
  first | ((refine wpAnyH_take (i := 0) (oi := ⟨(some 13), _, _, _, _, _⟩) (v := undef) rfl (by kernel_rfl) (by kernel_rfl) (by kernel_rfl) (fun _ _ _ h => h) (Or.inr ⟨by rfl, rfl⟩) (by assumption) ?_); (try simp only [Act.put, List.setIfInBounds_toArray, List.set_cons_zero, List.set_cons_succ])) | ((refine wpAnyH_take (i := 0) (oi := ⟨(some 13), _, _, _, _, _⟩) (v := ?_) rfl (by kernel_rfl) (by kernel_rfl) (by kernel_rfl) (fun _ _ _ h => h) (Or.inl ⟨by rfl, ?_⟩) (by assumption) ?_; rotate_left; focus ((intro w hSw; (try dsimp only at hSw); go_simp; (try with_reducible rfl)); done)); (try simp only [Act.put, List.setIfInBounds_toArray, List.set_cons_zero, List.set_cons_succ]))
  first | ((refine wpAnyH_take (i := 1) (oi := ⟨(some 14), _, _, _, _, _⟩) (v := undef) rfl (by kernel_rfl) (by kernel_rfl) (by kernel_rfl) (fun _ _ _ h => h) (Or.inr ⟨by rfl, rfl⟩) (by assumption) ?_); (try simp only [Act.put, List.setIfInBounds_toArray, List.set_cons_zero, List.set_cons_succ])) | ((refine wpAnyH_take (i := 1) (oi := ⟨(some 14), _, _, _, _, _⟩) (v := ?_) rfl (by kernel_rfl) (by kernel_rfl) (by kernel_rfl) (fun _ _ _ h => h) (Or.inl ⟨by rfl, ?_⟩) (by assumption) ?_; rotate_left; focus ((intro w hSw; (try dsimp only at hSw); go_simp; (try with_reducible rfl)); done)); (try simp only [Act.put, List.setIfInBounds_toArray, List.set_cons_zero, List.set_cons_succ]))
  first | ((refine wpAnyH_take (i := 2) (oi := ⟨(some 15), _, _, _, _, _⟩) (v := undef) rfl (by kernel_rfl) (by kernel_rfl) (by kernel_rfl) (fun _ _ _ h => h) (Or.inr ⟨by rfl, rfl⟩) (by assumption) ?_); (try simp only [Act.put, List.setIfInBounds_toArray, List.set_cons_zero, List.set_cons_succ])) | ((refine wpAnyH_take (i := 2) (oi := ⟨(some 15), _, _, _, _, _⟩) (v := ?_) rfl (by kernel_rfl) (by kernel_rfl) (by kernel_rfl) (fun _ _ _ h => h) (Or.inl ⟨by rfl, ?_⟩) (by assumption) ?_; rotate_left; focus ((intro w hSw; (try dsimp only at hSw); go_simp; (try with_reducible rfl)); done)); (try simp only [Act.put, List.setIfInBounds_toArray, List.set_cons_zero, List.set_cons_succ]))
  first | ((refine wpAnyH_take (i := 3) (oi := ⟨(some 16), _, _, _, _, _⟩) (v := undef) rfl (by kernel_rfl) (by kernel_rfl) (by kernel_rfl) (fun _ _ _ h => h) (Or.inr ⟨by rfl, rfl⟩) (by assumption) ?_); (try simp only [Act.put, List.setIfInBounds_toArray, List.set_cons_zero, List.set_cons_succ])) | ((refine wpAnyH_take (i := 3) (oi := ⟨(some 16), _, _, _, _, _⟩) (v := ?_) rfl (by kernel_rfl) (by kernel_rfl) (by kernel_rfl) (fun _ _ _ h => h) (Or.inl ⟨by rfl, ?_⟩) (by assumption) ?_; rotate_left; focus ((intro w hSw; (try dsimp only at hSw); go_simp; (try with_reducible rfl)); done)); (try simp only [Act.put, List.setIfInBounds_toArray, List.set_cons_zero, List.set_cons_succ]))
  first | ((refine wpAnyH_take (i := 4) (oi := ⟨(some 17), _, _, _, _, _⟩) (v := undef) rfl (by kernel_rfl) (by kernel_rfl) (by kernel_rfl) (fun _ _ _ h => h) (Or.inr ⟨by rfl, rfl⟩) (by assumption) ?_); (try simp only [Act.put, List.setIfInBounds_toArray, List.set_cons_zero, List.set_cons_succ])) | ((refine wpAnyH_take (i := 4) (oi := ⟨(some 17), _, _, _, _, _⟩) (v := ?_) rfl (by kernel_rfl) (by kernel_rfl) (by kernel_rfl) (fun _ _ _ h => h) (Or.inl ⟨by rfl, ?_⟩) (by assumption) ?_; rotate_left; focus ((intro w hSw; (try dsimp only at hSw); go_simp; (try with_reducible rfl)); done)); (try simp only [Act.put, List.setIfInBounds_toArray, List.set_cons_zero, List.set_cons_succ]))
  first | ((refine wpAnyH_take (i := 5) (oi := ⟨(some 18), _, _, _, _, _⟩) (v := undef) rfl (by kernel_rfl) (by kernel_rfl) (by kernel_rfl) (fun _ _ _ h => h) (Or.inr ⟨by rfl, rfl⟩) (by assumption) ?_); (try simp only [Act.put, List.setIfInBounds_toArray, List.set_cons_zero, List.set_cons_succ])) | (refine wpAnyH_ready (rs := [5]) (by kernel_rfl) (by simp) ?_; refine AllReadyH.cons (o := ⟨(some 18), _, _, _, _, _⟩) rfl (fun K hK => ?_) AllReadyH.nil; go_simp; ((go_at_call 16; refine (HU.out _ (by repeat (first | exact Grew.refl _ | assumption | refine Grew.drew ?_ | refine Grew.alloc ?_ _ | refine Grew.setCell ?_ (by (try simp only [World.size_alloc, World.size_drew]); omega) _ | refine Grew.trans ?_ (by assumption)))).mono ?_; rintro e w1 ⟨⟨v, rfl, ⟨ao, cap, rfl, hv⟩⟩, hb⟩; obtain ⟨hc, hf⟩ := hb.facts; have hz := hb.size; (try simp only [World.size_alloc, World.size_drew] at hz); (try (have hcq := fun o => hc (w.heap.size) o (by (try simp only [World.size_alloc, World.size_drew]); omega))); (try (have hcq := fun o => hc (w.heap.size + 1) o (by (try simp only [World.size_alloc, World.size_drew]); omega))); (try (have hcq := fun o => hc (P) o (by (try simp only [World.size_alloc, World.size_drew]); omega))); (try (have hq : w.heap.size < w1.heap.size := by omega)); (try (have hq : w.heap.size + 1 < w1.heap.size := by omega)); (try (have hq : P < w1.heap.size := by omega)))); refine hK.out _ _ (by ((try dsimp only); (refine ⟨?_, ?_, ?_, ?_, ?_, ?_, ?_, ?_, ?_, ?_, ?_, ?_, ?_⟩ <;> first | (go_keep; done) | omega | (simp [go_sem, *]; done) | ((try rw [World.cell?_drew]); (repeat rw [World.cell?_alloc_lt _ _ _ (by (try simp only [World.size_alloc]); omega)]); assumption) | (simp only [World.size_drew, World.size_alloc]; omega) | ((refine Grew.trans ?_ (by assumption)); simp [*]; done) | ((repeat (first | exact Grew.refl _ | assumption | refine Grew.drew ?_ | refine Grew.alloc ?_ _ | refine Grew.setCell ?_ (by (try simp only [World.size_alloc, World.size_drew]); omega) _ | refine Grew.trans ?_ (by assumption))); done)))) (fun hHeldN => ?_); clear hK K hHeld; have hHeld := hHeldN; clear hHeldN; (try dsimp only at hHeld); (try simp only [World.cell?_drew, World.size_drew] at hHeld); (try simp only [Act.put, List.setIfInBounds_toArray, List.set_cons_zero, List.set_cons_succ]))
  first | ((refine wpAnyH_take (i := 6) (oi := ⟨(some 7), _, _, _, _, _⟩) (v := undef) rfl (by kernel_rfl) (by kernel_rfl) (by kernel_rfl) (fun _ _ _ h => h) (Or.inr ⟨by rfl, rfl⟩) (by assumption) ?_); (try simp only [Act.put, List.setIfInBounds_toArray, List.set_cons_zero, List.set_cons_succ])) | ((refine wpAnyH_take (i := 6) (oi := ⟨(some 7), _, _, _, _, _⟩) (v := ?_) rfl (by kernel_rfl) (by kernel_rfl) (by kernel_rfl) (fun _ _ _ h => h) (Or.inl ⟨by rfl, ?_⟩) (by assumption) ?_; rotate_left; focus ((intro w hSw; (try dsimp only at hSw); go_simp; (try with_reducible rfl)); done)); (try simp only [Act.put, List.setIfInBounds_toArray, List.set_cons_zero, List.set_cons_succ]))
  refine wpAnyH_done (by kernel_rfl) ?_ _
  obtain ⟨hH0, hH1, hH2, hH3, hH4, hH5, hH6, hH7, hH8, hH9, hH10, hH11, hH12⟩ := hHeld
  have hO0 : OutAt w1 (w.heap.size + 1) w1.heap.size (.slice (some ⟨w.heap.size + 1, 0, none⟩) 0 0) [] := by
    have h0 := OutAt.start (w.alloc (.cells #[.int .i64 b0, .int .i64 b1, .int .i64 b2, .int .i64 b3] 25)) w1.heap.size
    rw [World.size_alloc] at h0
    exact h0.grew ((Grew.refl _).drew.trans hb)
  have hGw : Grew w w1 := (by repeat (first | exact Grew.refl _ | assumption | refine Grew.drew ?_ | refine Grew.alloc ?_ _ | refine Grew.setCell ?_ (by (try simp only [World.size_alloc, World.size_drew]); omega) _ | refine Grew.trans ?_ (by assumption)))
  have hzA := hGw.size
  have hz2 : w.heap.size + 1 < w1.heap.size := by omega
  have hle := passed_le f N
  have HO0 : Hid (OutAt w1 (w.heap.size + 1) w1.heap.size (.slice (some ⟨w.heap.size + 1, 0, none⟩) 0 0) []) := hO0
  have hcase : passed f N = [] ∨ ∃ bb, ao = some ⟨bb, 0, none⟩ ∧ w.heap.size + 1 < bb ∧ bb < w1.heap.size ∧ ∀ k x, (passed f N)[k]? = some x → w1.cell? ⟨bb, k, none⟩ = some (.int .i64 x) := by
    refine hv.imp id fun ⟨bb, h0, h1, h2, h3⟩ => ⟨bb, h0, ?_, h2, h3⟩
    (try simp only [World.size_drew, World.size_alloc] at h1); omega
  have HV : Hid (passed f N = [] ∨ ∃ bb, ao = some ⟨bb, 0, none⟩ ∧ w.heap.size + 1 < bb ∧ bb < w1.heap.size ∧ ∀ k x, (passed f N)[k]? = some x → w1.cell? ⟨bb, k, none⟩ = some (.int .i64 x)) := hcase
  clear hcase hv hO0
  have hM1 : MapAt w1 P C N W H S X Y c := HM.out.grew hGw
  have HM1 : Hid (MapAt w1 P C N W H S X Y c) := hM1
  have hC1 : C < w.heap.size + 1 := by omega
  obtain ⟨n, hn⟩ : ∃ n, n = (passed f N).length := ⟨_, rfl⟩
  rw [← hn] at hle ⊢
  have HN : Hid (n = (passed f N).length) := hn
  clear hn
  go_wp2_with fail
  go_loopw [4, 5, 21] (fun s4 s5 i wr => ∃ m : Nat, m ≤ N ∧ (passed f m).length ≤ n ∧ s4 = .slice none 0 0 ∧ s5 = .int .i64 0 ∧ i = .int .i64 (passed f m).length ∧ (∀ k, k < m → fresh c f k = false) ∧ Grew w1 wr) (fun s4 s5 i wr => n - (intOf i).toNat)
  case atStart => exact ⟨0, Nat.zero_le _, by simp [passed], rfl, rfl, by simp [passed], fun k hk => by omega, Grew.refl _⟩
  case round =>
    obtain ⟨m, hm, hmn, rfl, rfl, rfl, hF, hG⟩ := hrel
    obtain ⟨k, hk⟩ : ∃ k, k = (passed f m).length := ⟨_, rfl⟩
    rw [← hk] at hmn ⊢
    have HK : Hid (k = (passed f m).length) := hk
    have HF : Hid (∀ k, k < m → fresh c f k = false) := hF
    clear hk hF
    have hMr := HM1.out.grew hG
    obtain ⟨K_a5, a5⟩ := hMr.sl
    have hzr := hG.size
    by_cases hlt : k < n
    · obtain ⟨t, t0, t1, t2, t3, t4, t5⟩ := passed_next (N := N) hm (by rw [← HK.out, ← HN.out]; exact hlt)
      rw [← HK.out] at t4
      rcases HV.out with hnil | ⟨bb, rfl, hb0, hb1, hbc⟩
      · exfalso; have := HN.out; rw [hnil] at this; simp at this; omega
      have hx : wr.cell? ⟨bb, k, none⟩ = some (.int .i64 t) := (hG.facts.1 bb k hb1).trans (hbc k t t4)
      have hct : wr.cell? ⟨C, t, none⟩ = some (.int .i64 (c t)) := hMr.cs t t1
      have hk1 : (passed f (t + 1)).length = k + 1 := by rw [t5, List.length_append, ← HK.out]; rfl
      have HG : Hid (f t = true) := t2
      have HL : Hid (∀ k, m ≤ k → k < t → f k = false) := t3
      clear t2 t3 t4 t5 hbc hMr
      by_cases hzero : c t = 0
      · have hz1 : (c t == 0) = true := by simpa using hzero
        clear hzero
        go_wp2_with fail
        refine bodyPost_ret (v := .tuple #[.slice (some ⟨w.heap.size + 1, 0, none⟩) 0 0, .int .i64 3]) (by simp [results, Tryd.results39, go_sem, *]) rfl ⟨⟨_, rfl, _, _, rfl, .inl rfl⟩, hGw.trans (by repeat (first | exact Grew.refl _ | assumption | refine Grew.drew ?_ | refine Grew.alloc ?_ _ | refine Grew.setCell ?_ (by (try simp only [World.size_alloc, World.size_drew]); omega) _ | refine Grew.trans ?_ (by assumption)))⟩
      · have hz1 : (c t == 0) = false := by simpa using hzero
        have HF2 : Hid (∀ k, k < t + 1 → fresh c f k = false) := fun j hj => by
          by_cases j1 : j < m
          · exact HF.out j j1
          · by_cases j2 : j = t
            · subst j2; simp [fresh, hzero]
            · simp [fresh, HL.out j (by omega) (by omega)]
        clear hzero
        go_wp2_with fail
        go_roundw
        case rel => exact ⟨t + 1, by omega, by omega, rfl, rfl, by rw [hk1]; go_num, HF2.out, (by repeat (first | exact Grew.refl _ | assumption | refine Grew.drew ?_ | refine Grew.alloc ?_ _ | refine Grew.setCell ?_ (by (try simp only [World.size_alloc, World.size_drew]); omega) _ | refine Grew.trans ?_ (by assumption)))⟩
        case measure => simp [intOf]; omega
    · obtain ⟨e1, e2⟩ := passed_end hm (by rw [← HK.out, ← HN.out]; exact hlt)
      have HA : Hid (anyB (fresh c f) N = false) := anyB_no fun k hk => by
        by_cases hkm : k < m
        · exact HF.out k hkm
        · simp [fresh, e2 k (by omega) hk]
      clear e1 e2 hMr
      rw [hany] at HA
      cases HA.out

set_option maxRecDepth 100000 in
set_option maxHeartbeats 8000000 in
theorem rdrop_yes (P C N : Nat) (W H S X Y b0 b1 b2 b3 : Int) (c : Nat → Int) (f : Nat → Bool) (w : World) (hM : MapAt w P C N W H S X Y c) (hN : N ≤ 1024) (hc : ∀ k, k < N → 0 ≤ c k ∧ c k ≤ 1000000)
    (hU : ∀ w1, Grew w w1 → Calls Tryd.prog 16 #[.agg #[.int .i64 W, .int .i64 H, .int .i64 S, .int .i64 X, .int .i64 Y], .agg #[.int .i64 b0, .int .i64 b1, .int .i64 b2, .int .i64 b3]] w1 fun e w' => (∃ v, e = .returned v ∧ NewInts w' v (passed f N) w1.heap.size) ∧ Grew w1 w') (hany : anyB (fresh c f) N = false) :
    Calls Tryd.prog 39 #[.pointer (some ⟨P, 0, none⟩), .agg #[.int .i64 b0, .int .i64 b1, .int .i64 b2, .int .i64 b3]] w fun e w' => (∃ v, e = .returned (.tuple #[v, .int .i64 0]) ∧ NewInts w' v (passed (last c f) N) w.heap.size ∧ MapAt w' P C N W H S X Y (bump c f (-1) N)) ∧ Turn C w w' := by
  have HU : Hid _ := hU
  have HC : Hid (∀ k, k < N → 0 ≤ c k ∧ c k ≤ 1000000) := hc
  have HM : Hid (MapAt w P C N W H S X Y c) := hM
  obtain ⟨g0, g1, g2, g3, g4, ⟨K, gs⟩, _, _, hne, hP, hC⟩ := hM
  have hne' : C ≠ P := fun e => hne e.symm
  clear hU hc
  obtain ⟨i0, hi0, hi1, hi2, hi3⟩ := info_parts infoInt
  go_enter Tryd.func39, Tryd.ntmps39
  go_wp2_with fail
  refine wp_region_held_drew (S := (fun w' => w'.cell? ⟨P, 0, none⟩ = some (.int .i64 W) ∧ w'.cell? ⟨P, 1, none⟩ = some (.int .i64 H) ∧ w'.cell? ⟨P, 2, none⟩ = some (.int .i64 S) ∧ w'.cell? ⟨P, 3, none⟩ = some (.int .i64 X) ∧ w'.cell? ⟨P, 4, none⟩ = some (.int .i64 Y) ∧ w'.cell? ⟨P, 5, none⟩ = some ((.slice (some ⟨C, 0, none⟩) N K)) ∧ w'.cell? ⟨w.heap.size, 0, none⟩ = some (.int .i64 b0) ∧ w'.cell? ⟨w.heap.size, 1, none⟩ = some (.int .i64 b1) ∧ w'.cell? ⟨w.heap.size, 2, none⟩ = some (.int .i64 b2) ∧ w'.cell? ⟨w.heap.size, 3, none⟩ = some (.int .i64 b3) ∧ P < w'.heap.size ∧ w.heap.size < w'.heap.size ∧ Grew w w')) (by kernel_rfl) (by ((try dsimp only); (refine ⟨?_, ?_, ?_, ?_, ?_, ?_, ?_, ?_, ?_, ?_, ?_, ?_, ?_⟩ <;> first | (go_keep; done) | omega | (simp [go_sem, *]; done) | ((try rw [World.cell?_drew]); (repeat rw [World.cell?_alloc_lt _ _ _ (by (try simp only [World.size_alloc]); omega)]); assumption) | (simp only [World.size_drew, World.size_alloc]; omega) | ((refine Grew.trans ?_ (by assumption)); simp [*]; done) | ((repeat (first | exact Grew.refl _ | assumption | refine Grew.drew ?_ | refine Grew.alloc ?_ _ | refine Grew.setCell ?_ (by (try simp only [World.size_alloc, World.size_drew]); omega) _ | refine Grew.trans ?_ (by assumption))); done)))) (fun hHeld => ?_)
  (try dsimp only at hHeld); (try simp only [World.cell?_drew, World.size_drew] at hHeld)
  first | ((refine wpAnyH_take (i := 0) (oi := ⟨(some 13), _, _, _, _, _⟩) (v := undef) rfl (by kernel_rfl) (by kernel_rfl) (by kernel_rfl) (fun _ _ _ h => h) (Or.inr ⟨by rfl, rfl⟩) (by assumption) ?_); (try simp only [Act.put, List.setIfInBounds_toArray, List.set_cons_zero, List.set_cons_succ])) | ((refine wpAnyH_take (i := 0) (oi := ⟨(some 13), _, _, _, _, _⟩) (v := ?_) rfl (by kernel_rfl) (by kernel_rfl) (by kernel_rfl) (fun _ _ _ h => h) (Or.inl ⟨by rfl, ?_⟩) (by assumption) ?_; rotate_left; focus ((intro w hSw; (try dsimp only at hSw); go_simp; (try with_reducible rfl)); done)); (try simp only [Act.put, List.setIfInBounds_toArray, List.set_cons_zero, List.set_cons_succ]))
  first | ((refine wpAnyH_take (i := 1) (oi := ⟨(some 14), _, _, _, _, _⟩) (v := undef) rfl (by kernel_rfl) (by kernel_rfl) (by kernel_rfl) (fun _ _ _ h => h) (Or.inr ⟨by rfl, rfl⟩) (by assumption) ?_); (try simp only [Act.put, List.setIfInBounds_toArray, List.set_cons_zero, List.set_cons_succ])) | ((refine wpAnyH_take (i := 1) (oi := ⟨(some 14), _, _, _, _, _⟩) (v := ?_) rfl (by kernel_rfl) (by kernel_rfl) (by kernel_rfl) (fun _ _ _ h => h) (Or.inl ⟨by rfl, ?_⟩) (by assumption) ?_; rotate_left; focus ((intro w hSw; (try dsimp only at hSw); go_simp; (try with_reducible rfl)); done)); (try simp only [Act.put, List.setIfInBounds_toArray, List.set_cons_zero, List.set_cons_succ]))
  first | ((refine wpAnyH_take (i := 2) (oi := ⟨(some 15), _, _, _, _, _⟩) (v := undef) rfl (by kernel_rfl) (by kernel_rfl) (by kernel_rfl) (fun _ _ _ h => h) (Or.inr ⟨by rfl, rfl⟩) (by assumption) ?_); (try simp only [Act.put, List.setIfInBounds_toArray, List.set_cons_zero, List.set_cons_succ])) | ((refine wpAnyH_take (i := 2) (oi := ⟨(some 15), _, _, _, _, _⟩) (v := ?_) rfl (by kernel_rfl) (by kernel_rfl) (by kernel_rfl) (fun _ _ _ h => h) (Or.inl ⟨by rfl, ?_⟩) (by assumption) ?_; rotate_left; focus ((intro w hSw; (try dsimp only at hSw); go_simp; (try with_reducible rfl)); done)); (try simp only [Act.put, List.setIfInBounds_toArray, List.set_cons_zero, List.set_cons_succ]))
  first | ((refine wpAnyH_take (i := 3) (oi := ⟨(some 16), _, _, _, _, _⟩) (v := undef) rfl (by kernel_rfl) (by kernel_rfl) (by kernel_rfl) (fun _ _ _ h => h) (Or.inr ⟨by rfl, rfl⟩) (by assumption) ?_); (try simp only [Act.put, List.setIfInBounds_toArray, List.set_cons_zero, List.set_cons_succ])) | ((refine wpAnyH_take (i := 3) (oi := ⟨(some 16), _, _, _, _, _⟩) (v := ?_) rfl (by kernel_rfl) (by kernel_rfl) (by kernel_rfl) (fun _ _ _ h => h) (Or.inl ⟨by rfl, ?_⟩) (by assumption) ?_; rotate_left; focus ((intro w hSw; (try dsimp only at hSw); go_simp; (try with_reducible rfl)); done)); (try simp only [Act.put, List.setIfInBounds_toArray, List.set_cons_zero, List.set_cons_succ]))
  first | ((refine wpAnyH_take (i := 4) (oi := ⟨(some 17), _, _, _, _, _⟩) (v := undef) rfl (by kernel_rfl) (by kernel_rfl) (by kernel_rfl) (fun _ _ _ h => h) (Or.inr ⟨by rfl, rfl⟩) (by assumption) ?_); (try simp only [Act.put, List.setIfInBounds_toArray, List.set_cons_zero, List.set_cons_succ])) | ((refine wpAnyH_take (i := 4) (oi := ⟨(some 17), _, _, _, _, _⟩) (v := ?_) rfl (by kernel_rfl) (by kernel_rfl) (by kernel_rfl) (fun _ _ _ h => h) (Or.inl ⟨by rfl, ?_⟩) (by assumption) ?_; rotate_left; focus ((intro w hSw; (try dsimp only at hSw); go_simp; (try with_reducible rfl)); done)); (try simp only [Act.put, List.setIfInBounds_toArray, List.set_cons_zero, List.set_cons_succ]))
  first | ((refine wpAnyH_take (i := 5) (oi := ⟨(some 18), _, _, _, _, _⟩) (v := undef) rfl (by kernel_rfl) (by kernel_rfl) (by kernel_rfl) (fun _ _ _ h => h) (Or.inr ⟨by rfl, rfl⟩) (by assumption) ?_); (try simp only [Act.put, List.setIfInBounds_toArray, List.set_cons_zero, List.set_cons_succ])) | (refine wpAnyH_ready (rs := [5]) (by kernel_rfl) (by simp) ?_; refine AllReadyH.cons (o := ⟨(some 18), _, _, _, _, _⟩) rfl (fun K hK => ?_) AllReadyH.nil; go_simp; ((go_at_call 16; refine (HU.out _ (by repeat (first | exact Grew.refl _ | assumption | refine Grew.drew ?_ | refine Grew.alloc ?_ _ | refine Grew.setCell ?_ (by (try simp only [World.size_alloc, World.size_drew]); omega) _ | refine Grew.trans ?_ (by assumption)))).mono ?_; rintro e w1 ⟨⟨v, rfl, ⟨ao, cap, rfl, hv⟩⟩, hb⟩; obtain ⟨hc, hf⟩ := hb.facts; have hz := hb.size; (try simp only [World.size_alloc, World.size_drew] at hz); (try (have hcq := fun o => hc (w.heap.size) o (by (try simp only [World.size_alloc, World.size_drew]); omega))); (try (have hcq := fun o => hc (w.heap.size + 1) o (by (try simp only [World.size_alloc, World.size_drew]); omega))); (try (have hcq := fun o => hc (P) o (by (try simp only [World.size_alloc, World.size_drew]); omega))); (try (have hq : w.heap.size < w1.heap.size := by omega)); (try (have hq : w.heap.size + 1 < w1.heap.size := by omega)); (try (have hq : P < w1.heap.size := by omega)))); refine hK.out _ _ (by ((try dsimp only); (refine ⟨?_, ?_, ?_, ?_, ?_, ?_, ?_, ?_, ?_, ?_, ?_, ?_, ?_⟩ <;> first | (go_keep; done) | omega | (simp [go_sem, *]; done) | ((try rw [World.cell?_drew]); (repeat rw [World.cell?_alloc_lt _ _ _ (by (try simp only [World.size_alloc]); omega)]); assumption) | (simp only [World.size_drew, World.size_alloc]; omega) | ((refine Grew.trans ?_ (by assumption)); simp [*]; done) | ((repeat (first | exact Grew.refl _ | assumption | refine Grew.drew ?_ | refine Grew.alloc ?_ _ | refine Grew.setCell ?_ (by (try simp only [World.size_alloc, World.size_drew]); omega) _ | refine Grew.trans ?_ (by assumption))); done)))) (fun hHeldN => ?_); clear hK K hHeld; have hHeld := hHeldN; clear hHeldN; (try dsimp only at hHeld); (try simp only [World.cell?_drew, World.size_drew] at hHeld); (try simp only [Act.put, List.setIfInBounds_toArray, List.set_cons_zero, List.set_cons_succ]))
  first | ((refine wpAnyH_take (i := 6) (oi := ⟨(some 7), _, _, _, _, _⟩) (v := undef) rfl (by kernel_rfl) (by kernel_rfl) (by kernel_rfl) (fun _ _ _ h => h) (Or.inr ⟨by rfl, rfl⟩) (by assumption) ?_); (try simp only [Act.put, List.setIfInBounds_toArray, List.set_cons_zero, List.set_cons_succ])) | ((refine wpAnyH_take (i := 6) (oi := ⟨(some 7), _, _, _, _, _⟩) (v := ?_) rfl (by kernel_rfl) (by kernel_rfl) (by kernel_rfl) (fun _ _ _ h => h) (Or.inl ⟨by rfl, ?_⟩) (by assumption) ?_; rotate_left; focus ((intro w hSw; (try dsimp only at hSw); go_simp; (try with_reducible rfl)); done)); (try simp only [Act.put, List.setIfInBounds_toArray, List.set_cons_zero, List.set_cons_succ]))
  refine wpAnyH_done (by kernel_rfl) ?_ _
  obtain ⟨hH0, hH1, hH2, hH3, hH4, hH5, hH6, hH7, hH8, hH9, hH10, hH11, hH12⟩ := hHeld
  have hO0 : OutAt w1 (w.heap.size + 1) w1.heap.size (.slice (some ⟨w.heap.size + 1, 0, none⟩) 0 0) [] := by
    have h0 := OutAt.start (w.alloc (.cells #[.int .i64 b0, .int .i64 b1, .int .i64 b2, .int .i64 b3] 25)) w1.heap.size
    rw [World.size_alloc] at h0
    exact h0.grew ((Grew.refl _).drew.trans hb)
  have hGw : Grew w w1 := (by repeat (first | exact Grew.refl _ | assumption | refine Grew.drew ?_ | refine Grew.alloc ?_ _ | refine Grew.setCell ?_ (by (try simp only [World.size_alloc, World.size_drew]); omega) _ | refine Grew.trans ?_ (by assumption)))
  have hzA := hGw.size
  have hz2 : w.heap.size + 1 < w1.heap.size := by omega
  have hle := passed_le f N
  have HO0 : Hid (OutAt w1 (w.heap.size + 1) w1.heap.size (.slice (some ⟨w.heap.size + 1, 0, none⟩) 0 0) []) := hO0
  have hcase : passed f N = [] ∨ ∃ bb, ao = some ⟨bb, 0, none⟩ ∧ w.heap.size + 1 < bb ∧ bb < w1.heap.size ∧ ∀ k x, (passed f N)[k]? = some x → w1.cell? ⟨bb, k, none⟩ = some (.int .i64 x) := by
    refine hv.imp id fun ⟨bb, h0, h1, h2, h3⟩ => ⟨bb, h0, ?_, h2, h3⟩
    (try simp only [World.size_drew, World.size_alloc] at h1); omega
  have HV : Hid (passed f N = [] ∨ ∃ bb, ao = some ⟨bb, 0, none⟩ ∧ w.heap.size + 1 < bb ∧ bb < w1.heap.size ∧ ∀ k x, (passed f N)[k]? = some x → w1.cell? ⟨bb, k, none⟩ = some (.int .i64 x)) := hcase
  clear hcase hv hO0
  have hM1 : MapAt w1 P C N W H S X Y c := HM.out.grew hGw
  have HM1 : Hid (MapAt w1 P C N W H S X Y c) := hM1
  have hC1 : C < w.heap.size + 1 := by omega
  obtain ⟨n, hn⟩ : ∃ n, n = (passed f N).length := ⟨_, rfl⟩
  rw [← hn] at hle ⊢
  have HN : Hid (n = (passed f N).length) := hn
  clear hn
  go_wp2_with fail
  go_loopw [4, 5, 21] (fun s4 s5 i wr => ∃ m : Nat, m ≤ N ∧ (passed f m).length ≤ n ∧ s4 = .slice none 0 0 ∧ s5 = .int .i64 0 ∧ i = .int .i64 (passed f m).length ∧ (∀ k, k < m → fresh c f k = false) ∧ Grew w1 wr) (fun s4 s5 i wr => n - (intOf i).toNat)
  case atStart => exact ⟨0, Nat.zero_le _, by simp [passed], rfl, rfl, by simp [passed], fun k hk => by omega, Grew.refl _⟩
  case round =>
    obtain ⟨m, hm, hmn, rfl, rfl, rfl, hF, hG⟩ := hrel
    obtain ⟨k, hk⟩ : ∃ k, k = (passed f m).length := ⟨_, rfl⟩
    rw [← hk] at hmn ⊢
    have HK : Hid (k = (passed f m).length) := hk
    have HF : Hid (∀ k, k < m → fresh c f k = false) := hF
    clear hk hF
    have hMr := HM1.out.grew hG
    obtain ⟨K_a5, a5⟩ := hMr.sl
    have hzr := hG.size
    by_cases hlt : k < n
    · obtain ⟨t, t0, t1, t2, t3, t4, t5⟩ := passed_next (N := N) hm (by rw [← HK.out, ← HN.out]; exact hlt)
      rw [← HK.out] at t4
      rcases HV.out with hnil | ⟨bb, rfl, hb0, hb1, hbc⟩
      · exfalso; have := HN.out; rw [hnil] at this; simp at this; omega
      have hx : wr.cell? ⟨bb, k, none⟩ = some (.int .i64 t) := (hG.facts.1 bb k hb1).trans (hbc k t t4)
      have hct : wr.cell? ⟨C, t, none⟩ = some (.int .i64 (c t)) := hMr.cs t t1
      have hk1 : (passed f (t + 1)).length = k + 1 := by rw [t5, List.length_append, ← HK.out]; rfl
      have HG : Hid (f t = true) := t2
      have HL : Hid (∀ k, m ≤ k → k < t → f k = false) := t3
      clear t2 t3 t4 t5 hbc hMr
      by_cases hzero : c t = 0
      · exfalso
        have := anyB_none hany t t1
        simp [fresh, HG.out, hzero] at this
      · have hz1 : (c t == 0) = false := by simpa using hzero
        have HF2 : Hid (∀ k, k < t + 1 → fresh c f k = false) := fun j hj => by
          by_cases j1 : j < m
          · exact HF.out j j1
          · by_cases j2 : j = t
            · subst j2; simp [fresh, hzero]
            · simp [fresh, HL.out j (by omega) (by omega)]
        clear hzero
        go_wp2_with fail
        go_roundw
        case rel => exact ⟨t + 1, by omega, by omega, rfl, rfl, by rw [hk1]; go_num, HF2.out, (by repeat (first | exact Grew.refl _ | assumption | refine Grew.drew ?_ | refine Grew.alloc ?_ _ | refine Grew.setCell ?_ (by (try simp only [World.size_alloc, World.size_drew]); omega) _ | refine Grew.trans ?_ (by assumption)))⟩
        case measure => simp [intOf]; omega
    · obtain ⟨e1, e2⟩ := passed_end hm (by rw [← HK.out, ← HN.out]; exact hlt)
      have HA : Hid (anyB (fresh c f) N = false) := anyB_no fun k hk => by
        by_cases hkm : k < m
        · exact HF.out k hkm
        · simp [fresh, e2 k (by omega) hk]
      clear e1 e2 hMr
      have HGA : Hid (Grew w1 wr) := hG
      clear a5
      go_wp2_with fail
      obtain ⟨wo, rfl⟩ : ∃ wo : World, wo = wr := ⟨_, rfl⟩
      go_loopw [6, 37] (fun v i wr => ∃ m : Nat, m ≤ N ∧ (passed f m).length ≤ n ∧ i = .int .i64 (passed f m).length ∧ OutAt wr (w.heap.size + 1) w1.heap.size v (passed (last c f) m) ∧ MapAt wr P C N W H S X Y (bump c f (-1) m) ∧ Turn C w wr ∧ w1.heap.size ≤ wr.heap.size ∧ ∀ bb k, w.heap.size + 1 < bb → bb < w1.heap.size → wr.cell? ⟨bb, k, none⟩ = w1.cell? ⟨bb, k, none⟩) (fun v i wr => n - (intOf i).toNat)
      case atStart =>
        refine ⟨0, Nat.zero_le _, by simp [passed], by simp [passed], ?_, ?_, (hGw.trans HGA.out).turn C, HGA.out.size, fun bb k h1 h2 => HGA.out.facts.1 _ _ h2⟩
        · exact HO0.out.grew HGA.out
        · exact (HM1.out.congr fun k _ => by simp [bump]).grew HGA.out
      case round =>
        obtain ⟨m, hm, hmn, rfl, hO, hMr, hT, hz, hLk⟩ := hrel
        obtain ⟨k, hk⟩ : ∃ k, k = (passed f m).length := ⟨_, rfl⟩
        rw [← hk] at hmn ⊢
        have HK : Hid (k = (passed f m).length) := hk
        clear hk
        have HO : Hid (OutAt wr (w.heap.size + 1) w1.heap.size _ (passed (last c f) m)) := hO
        have HR : Hid (MapAt wr P C N W H S X Y (bump c f (-1) m)) := hMr
        have HT : Hid (Turn C w wr) := hT
        have HLK : Hid (∀ bb k, w.heap.size + 1 < bb → bb < w1.heap.size → wr.cell? ⟨bb, k, none⟩ = w1.cell? ⟨bb, k, none⟩) := hLk
        obtain ⟨K_a5, a5⟩ := hMr.sl
        have hfz := hMr.fz
        clear hO hMr hT hLk
        by_cases hlt : k < n
        · obtain ⟨t, t0, t1, t2, t3, t4, t5⟩ := passed_next (N := N) hm (by rw [← HK.out, ← HN.out]; exact hlt)
          rw [← HK.out] at t4
          rcases HV.out with hnil | ⟨bb, rfl, hb0, hb1, hbc⟩
          · exfalso; have := HN.out; rw [hnil] at this; simp at this; omega
          have hx : wr.cell? ⟨bb, k, none⟩ = some (.int .i64 t) := (HLK.out bb k hb0 hb1).trans (hbc k t t4)
          have hct : wr.cell? ⟨C, t, none⟩ = some (.int .i64 (c t)) := by have e := bump_at (c := c) (f := f) (d := -1) t0; rw [← e]; exact HR.out.cs t t1
          obtain ⟨hc0, hc1⟩ := HC.out t t1
          have HG : Hid (f t = true) := t2
          have hk1 : (passed f (t + 1)).length = k + 1 := by rw [t5, List.length_append, ← HK.out]; rfl
          have HB : Hid (∀ k, (if k = t then c t + -1 else bump c f (-1) m k) = bump c f (-1) (t + 1) k) := fun k => bump_next t0 t2 t3 k
          have hskip : passed (last c f) t = passed (last c f) m := passed_skip t0 fun k k0 k1 => by simp [last, t3 k k0 k1]
          clear t2 t3 t4 t5 hbc
          by_cases hone : c t = 1
          · have hfr : last c f t = true := by simp [last, HG.out, hone]
            have HP : Hid (passed (last c f) (t + 1) = passed (last c f) m ++ [(t : Int)]) := by show _ = _; rw [passed_hit hfr, hskip]
            rw [hone] at hct
            have hq := HB.out
            rw [hone] at hq
            have HB2 : Hid (∀ k, (if k = t then (0 : Int) else bump c f (-1) m k) = bump c f (-1) (t + 1) k) := hq
            clear hfr hskip hq hc0 hc1 hone HB
            go_wp2_with (at_builtin; refine wpList_append_lies _ rfl _ _ 28 rfl (w.heap.size + 1) 3 i0 (.int .i64 0) 1 8 Tryd.underlying28 hi0 hi1 hi2 hi3 rfl (by decide) _ _ _ rfl ((HO.out.turn (Turn.setCell (Turn.refl C wr) rfl _) hC1).own.raw.alloc _) ⟨_, 0, none⟩ 1 1 [.int .i64 t] rfl rfl ?c1 ?c2 (by decide) ?c3 ?c4 ?c5 _ rfl ?_)
            case c1 =>
              intro j u hj
              match j, hj with
              | 0, hj =>
                simp at hj; subst hj; simp [Addr.add]
                have e : (wr.setCell ⟨C, t, none⟩ (.int .i64 0)).heap.size = wr.heap.size := by simp
                rw [← e]
                generalize wr.setCell ⟨C, t, none⟩ (.int .i64 0) = wq
                simp
            case c2 => intro u hu; simp at hu; subst hu; rfl
            case c3 => have := passed_le (last c f) m; unfold maxLen; omega
            case c4 => have := passed_le (last c f) m; omega
            case c5 => simp; omega
            · intro g4 cap4 w4 hown' hgrow hat4 hlt4
              obtain ⟨hO1, hB1, hF1⟩ := (HO.out.turn (Turn.setCell (Turn.refl C wr) (p := ⟨C, t, none⟩) rfl (.int .i64 0)) hC1).next hown' hgrow hat4 (by simp) (by simpa using hz) (by omega)
              rw [← HP.out] at hO1
              have HM4 : Hid (MapAt w4 P C N W H S X Y (bump c f (-1) (t + 1))) := ((HR.out.set t t1 0).congr fun k _ => HB2.out k).below hB1 (by omega) (by omega)
              have HT4 : Hid (Turn C w w4) := (HT.out.setCell (p := ⟨C, t, none⟩) rfl (.int .i64 0)).below hB1 (by omega)
              have HF4 : Hid (∀ bb k, w.heap.size + 1 < bb → bb < w1.heap.size → w4.cell? ⟨bb, k, none⟩ = w1.cell? ⟨bb, k, none⟩) := fun bb k h1 h2 => (hF1 bb k h2 (by omega)).trans ((World.cell?_setCell_far _ _ _ _ (by simp; omega)).trans (HLK.out bb k h1 h2))
              have hz4 : w1.heap.size ≤ w4.heap.size := Nat.le_trans hz (by have := hB1.size; simpa using this)
              have HO4 : Hid (OutAt w4 (w.heap.size + 1) w1.heap.size _ (passed (last c f) (t + 1))) := hO1
              clear hown' hgrow hat4 hF1 hB1 hO1 hct a5 hfz
              go_wp2_with fail
              go_roundw
              case rel => exact ⟨t + 1, by omega, by omega, by rw [hk1]; go_num, HO4.out, HM4.out, HT4.out, hz4, HF4.out⟩
              case measure => simp [intOf]; omega
          · have hfr : last c f t = false := by simp [last, hone]
            have HP : Hid (passed (last c f) (t + 1) = passed (last c f) m) := by show _ = _; rw [passed_miss hfr, hskip]
            have hz1 : (c t - 1 == 0) = false := by rw [beq_eq_false_iff_ne]; omega
            clear hfr hskip hone
            go_wp2_with fail
            go_roundw
            case rel => exact ⟨t + 1, by omega, by omega, by rw [hk1]; go_num, by rw [HP.out]; exact HO.out.turn (Turn.setCell (Turn.refl C wr) rfl _) hC1, (HR.out.set t t1 _).congr fun k _ => HB.out k, HT.out.setCell rfl _, by simpa using hz, fun bb k h1 h2 => (World.cell?_setCell_far _ _ _ _ (by simp; omega)).trans (HLK.out bb k h1 h2)⟩
            case measure => simp [intOf]; omega
        · obtain ⟨e1, e2⟩ := passed_end hm (by rw [← HK.out, ← HN.out]; exact hlt)
          have e3 : passed (last c f) N = passed (last c f) m := passed_skip hm fun k k0 k1 => by simp [last, e2 k k0 k1]
          have HE : Hid (passed (last c f) N = passed (last c f) m) := e3
          have H2 : Hid (MapAt wr P C N W H S X Y (bump c f (-1) N)) := HR.out.congr fun k hk => by
            unfold bump
            by_cases hkm : k < m
            · rw [show decide (k < m) = true by simpa using hkm, show decide (k < N) = true by simpa using hk]
            · rw [e2 k (by omega) hk]; rfl
          clear e1 e2 e3
          go_wp2_with fail
          refine bodyPost_ret (v := .tuple #[_, .int .i64 0]) (by simp [results, Tryd.results39, go_sem, *]; rfl) rfl ⟨⟨_, rfl, by rw [HE.out]; exact HO.out.own.newInts (by omega), H2.out⟩, HT.out⟩
end Go.Proofs.YtbgbfljbjpbinaaDoor

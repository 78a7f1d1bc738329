/- The walks of the reference's functions of layer 1 that answer numbers, and of the laws' own helpers. Conditions: points in reach, boxes right. -/
import Derived.Test.YtlaiikahgioonaaDoorPlane4
import Derived.Test.YtlaiikahgioonaaDoorRef1
import Derived.Deep.RegionHeld3
namespace Go.Proofs.YtlaiikahgioonaaDoor
set_option linter.unusedSimpArgs false
set_option linter.unusedVariables false
open Go.RowKit

set_option maxHeartbeats 4000000 in
theorem rof_yes (x y p q : Int) (w : World) (h : ofB x y p q = true) :
    Calls Tryd.prog 28 #[.agg #[.int .i64 x, .int .i64 y], .agg #[.int .i64 p, .int .i64 q]] w fun e w' => e = .returned (.tuple #[.agg #[.int .i64 (x - p), .int .i64 (y - q), .int .i64 (x + p), .int .i64 (y + q)], .bool true]) ∧ Grew w w' := by
  simp only [ofB, Bool.and_eq_true, decide_eq_true_eq] at h
  obtain ⟨⟨⟨h1, h2⟩, h3, h4⟩, h5, h6⟩ := h
  obtain ⟨hx, hx'⟩ := (withinB_iff _ _).1 h1
  obtain ⟨hy, hy'⟩ := (withinB_iff _ _).1 h2
  have k1 : withinB p 1048576 = true := (withinB_iff _ _).2 ⟨by omega, h4⟩
  have k2 : withinB q 1048576 = true := (withinB_iff _ _).2 ⟨by omega, h6⟩
  go_enter Tryd.func28, Tryd.ntmps28
  go_wp2_with (go_at_call 38; refine (rin_any _ _ _ (by omega) (by omega)).mono ?_; rintro e w' ⟨rfl, rfl⟩)
  exact bodyPost_ret (v := .tuple #[.agg #[.int .i64 (x - p), .int .i64 (y - q), .int .i64 (x + p), .int .i64 (y + q)], .bool true]) (by simp [results, Tryd.results28, go_sem, *]) rfl ⟨rfl, (by repeat (first | exact Grew.refl _ | assumption | refine Grew.drew ?_ | refine Grew.alloc ?_ _ | refine Grew.setCell ?_ (by (try simp only [World.size_alloc, World.size_drew]); omega) _ | refine Grew.trans ?_ (by assumption)))⟩
set_option maxHeartbeats 4000000 in
theorem rof_no (x y p q : Int) (w : World) (h : ofB x y p q = false) :
    Calls Tryd.prog 28 #[.agg #[.int .i64 x, .int .i64 y], .agg #[.int .i64 p, .int .i64 q]] w fun e w' => e = .returned (.tuple #[.agg #[.int .i64 0, .int .i64 0, .int .i64 0, .int .i64 0], .bool false]) ∧ Grew w w' := by
  have hd : ∃ b1 b2 b3 b4 b5 b6 : Bool, withinB x 1048576 = b1 ∧ withinB y 1048576 = b2 ∧ withinB p 1048576 = b3 ∧ withinB q 1048576 = b4 ∧ decide (p < 0) = b5 ∧ decide (q < 0) = b6 ∧ (b1 && b2 && b3 && b4 && !b5 && !b6) = false := by
    refine ⟨_, _, _, _, _, _, rfl, rfl, rfl, rfl, rfl, rfl, ?_⟩
    simp only [ofB] at h
    cases h1 : withinB x 1048576 <;> cases h2 : withinB y 1048576 <;> simp [h1, h2] at h ⊢
    intro h3 h4 h5
    rw [withinB_iff] at h3 h4
    omega
  clear h
  obtain ⟨b1, b2, b3, b4, b5, b6, h1, h2, h3, h4, h5, h6, h7⟩ := hd
  cases b1
  · clear h7 h2 h3 h4 h5 h6
    go_enter Tryd.func28, Tryd.ntmps28
    go_wp2_with (go_at_call 38; refine (rin_any _ _ _ (by omega) (by omega)).mono ?_; rintro e w' ⟨rfl, rfl⟩)
    exact bodyPost_ret (v := .tuple #[.agg #[.int .i64 0, .int .i64 0, .int .i64 0, .int .i64 0], .bool false]) (by simp [results, Tryd.results28, go_sem, *]) rfl ⟨rfl, (by repeat (first | exact Grew.refl _ | assumption | refine Grew.drew ?_ | refine Grew.alloc ?_ _ | refine Grew.setCell ?_ (by (try simp only [World.size_alloc, World.size_drew]); omega) _ | refine Grew.trans ?_ (by assumption)))⟩
  cases b2
  · clear h7 h3 h4 h5 h6
    go_enter Tryd.func28, Tryd.ntmps28
    go_wp2_with (go_at_call 38; refine (rin_any _ _ _ (by omega) (by omega)).mono ?_; rintro e w' ⟨rfl, rfl⟩)
    exact bodyPost_ret (v := .tuple #[.agg #[.int .i64 0, .int .i64 0, .int .i64 0, .int .i64 0], .bool false]) (by simp [results, Tryd.results28, go_sem, *]) rfl ⟨rfl, (by repeat (first | exact Grew.refl _ | assumption | refine Grew.drew ?_ | refine Grew.alloc ?_ _ | refine Grew.setCell ?_ (by (try simp only [World.size_alloc, World.size_drew]); omega) _ | refine Grew.trans ?_ (by assumption)))⟩
  cases b3
  · clear h7 h4 h5 h6
    go_enter Tryd.func28, Tryd.ntmps28
    go_wp2_with (go_at_call 38; refine (rin_any _ _ _ (by omega) (by omega)).mono ?_; rintro e w' ⟨rfl, rfl⟩)
    exact bodyPost_ret (v := .tuple #[.agg #[.int .i64 0, .int .i64 0, .int .i64 0, .int .i64 0], .bool false]) (by simp [results, Tryd.results28, go_sem, *]) rfl ⟨rfl, (by repeat (first | exact Grew.refl _ | assumption | refine Grew.drew ?_ | refine Grew.alloc ?_ _ | refine Grew.setCell ?_ (by (try simp only [World.size_alloc, World.size_drew]); omega) _ | refine Grew.trans ?_ (by assumption)))⟩
  cases b4
  · clear h7 h5 h6
    go_enter Tryd.func28, Tryd.ntmps28
    go_wp2_with (go_at_call 38; refine (rin_any _ _ _ (by omega) (by omega)).mono ?_; rintro e w' ⟨rfl, rfl⟩)
    exact bodyPost_ret (v := .tuple #[.agg #[.int .i64 0, .int .i64 0, .int .i64 0, .int .i64 0], .bool false]) (by simp [results, Tryd.results28, go_sem, *]) rfl ⟨rfl, (by repeat (first | exact Grew.refl _ | assumption | refine Grew.drew ?_ | refine Grew.alloc ?_ _ | refine Grew.setCell ?_ (by (try simp only [World.size_alloc, World.size_drew]); omega) _ | refine Grew.trans ?_ (by assumption)))⟩
  cases b5
  · cases b6
    · simp at h7
    · clear h7
      go_enter Tryd.func28, Tryd.ntmps28
      go_wp2_with (go_at_call 38; refine (rin_any _ _ _ (by omega) (by omega)).mono ?_; rintro e w' ⟨rfl, rfl⟩)
      exact bodyPost_ret (v := .tuple #[.agg #[.int .i64 0, .int .i64 0, .int .i64 0, .int .i64 0], .bool false]) (by simp [results, Tryd.results28, go_sem, *]) rfl ⟨rfl, (by repeat (first | exact Grew.refl _ | assumption | refine Grew.drew ?_ | refine Grew.alloc ?_ _ | refine Grew.setCell ?_ (by (try simp only [World.size_alloc, World.size_drew]); omega) _ | refine Grew.trans ?_ (by assumption)))⟩
  · clear h7 h6
    go_enter Tryd.func28, Tryd.ntmps28
    go_wp2_with (go_at_call 38; refine (rin_any _ _ _ (by omega) (by omega)).mono ?_; rintro e w' ⟨rfl, rfl⟩)
    exact bodyPost_ret (v := .tuple #[.agg #[.int .i64 0, .int .i64 0, .int .i64 0, .int .i64 0], .bool false]) (by simp [results, Tryd.results28, go_sem, *]) rfl ⟨rfl, (by repeat (first | exact Grew.refl _ | assumption | refine Grew.drew ?_ | refine Grew.alloc ?_ _ | refine Grew.setCell ?_ (by (try simp only [World.size_alloc, World.size_drew]); omega) _ | refine Grew.trans ?_ (by assumption)))⟩

theorem half_any (n : Int) (w : World) (h1 : -8388608 ≤ n) (h2 : n ≤ 8388608) : Calls Tryd.prog 33 #[.int .i64 n] w fun e w' => e = .returned (.int .i64 (n / 2)) ∧ w = w' := by
  by_cases h : n < 0
  · have e : -((1 - n) / 2) = n / 2 := by omega
    go_enter Tryd.func33, Tryd.ntmps33
    go_wp2
    go_ret
    exact ⟨by first | rw [e] | rfl, rfl⟩
  · go_enter Tryd.func33, Tryd.ntmps33
    go_wp2
    go_ret
    exact ⟨rfl, rfl⟩

set_option maxHeartbeats 4000000 in
theorem square_any (x y p q : Int) (w : World) (h1 : reachB x y = true) (h2 : reachB p q = true) :
    Calls Tryd.prog 35 #[.agg #[.int .i64 x, .int .i64 y], .agg #[.int .i64 p, .int .i64 q]] w fun e w' => e = .returned (.int .i64 (dist x y p q)) ∧ Grew w w' := by
  obtain ⟨⟨a1, a2⟩, a3, a4⟩ := (reachB_iff _ _).1 h1
  obtain ⟨⟨b1, b2⟩, b3, b4⟩ := (reachB_iff _ _).1 h2
  obtain ⟨c1, c2⟩ := sq_bd (x - p) (by omega) (by omega)
  obtain ⟨d1, d2⟩ := sq_bd (y - q) (by omega) (by omega)
  go_enter Tryd.func35, Tryd.ntmps35
  go_wp2
  go_ret
  exact ⟨rfl, (by repeat (first | exact Grew.refl _ | assumption | refine Grew.drew ?_ | refine Grew.alloc ?_ _ | refine Grew.setCell ?_ (by (try simp only [World.size_alloc, World.size_drew]); omega) _ | refine Grew.trans ?_ (by assumption)))⟩

def rfar (n lo hi : Int) : Int := if n < lo then lo - n else if hi < n then n - hi else 0
theorem far_any (n lo hi : Int) (w : World) (h1 : -4194304 ≤ n) (h2 : n ≤ 4194304) (h3 : -4194304 ≤ lo) (h4 : lo ≤ 4194304) (h5 : -4194304 ≤ hi) (h6 : hi ≤ 4194304) :
    Calls Tryd.prog 41 #[.int .i64 n, .int .i64 lo, .int .i64 hi] w fun e w' => e = .returned (.int .i64 (rfar n lo hi)) ∧ w = w' := by
  by_cases h : n < lo
  · go_enter Tryd.func41, Tryd.ntmps41
    go_wp2
    go_ret
    exact ⟨by simp [rfar, h], rfl⟩
  · by_cases k : hi < n
    · go_enter Tryd.func41, Tryd.ntmps41
      go_wp2
      go_ret
      exact ⟨by rw [show rfar n lo hi = n - hi from by unfold rfar; rw [if_neg (by omega), if_pos (by omega)]]; rfl, rfl⟩
    · go_enter Tryd.func41, Tryd.ntmps41
      go_wp2
      go_ret
      exact ⟨by rw [show rfar n lo hi = 0 from by unfold rfar; rw [if_neg (by omega), if_neg (by omega)]]; rfl, rfl⟩

theorem rfar_eq (n lo hi : Int) (h : lo ≤ hi) : rfar n lo hi * rfar n lo hi = (n - clamp n lo hi) * (n - clamp n lo hi) := by
  unfold rfar clamp
  by_cases h1 : n < lo
  · have e : min (max n lo) hi = lo := by omega
    rw [if_pos h1, e, ← Int.neg_mul_neg, Int.neg_sub]
  · by_cases h2 : hi < n
    · have e : min (max n lo) hi = hi := by omega
      rw [if_neg h1, if_pos h2, e]
    · have e : min (max n lo) hi = n := by omega
      rw [if_neg h1, if_neg h2, e]; simp

set_option maxHeartbeats 4000000 in
theorem rgap_any (p q x0 y0 x1 y1 : Int) (w : World) (h1 : reachB p q = true) (h2 : rightB x0 y0 x1 y1 = true) :
    Calls Tryd.prog 36 #[.agg #[.int .i64 p, .int .i64 q], .agg #[.int .i64 x0, .int .i64 y0, .int .i64 x1, .int .i64 y1]] w fun e w' => e = .returned (.int .i64 (gap p q x0 y0 x1 y1)) ∧ Grew w w' := by
  obtain ⟨⟨a1, a2⟩, a3, a4⟩ := (reachB_iff _ _).1 h1
  obtain ⟨⟨b1, b2⟩, ⟨b3, b4⟩, b5, b6⟩ := (rightB_iff _ _ _ _).1 h2
  have e1 := rfar_eq p x0 x1 b1
  have e2 := rfar_eq q y0 y1 b2
  have E : Hid (gap p q x0 y0 x1 y1 = rfar p x0 x1 * rfar p x0 x1 + rfar q y0 y1 * rfar q y0 y1) := by show _ = _; rw [e1, e2]; rfl
  have f1 : -8388608 ≤ rfar p x0 x1 ∧ rfar p x0 x1 ≤ 8388608 := by unfold rfar; split <;> (try split) <;> omega
  have f2 : -8388608 ≤ rfar q y0 y1 ∧ rfar q y0 y1 ≤ 8388608 := by unfold rfar; split <;> (try split) <;> omega
  obtain ⟨c1, c2⟩ := sq_bd _ f1.1 f1.2
  obtain ⟨d1, d2⟩ := sq_bd _ f2.1 f2.2
  clear e1 e2 f1 f2
  go_enter Tryd.func36, Tryd.ntmps36
  go_wp2_with fail
  refine wp_region_held_drew (S := (fun w' => w'.cell? ⟨w.heap.size, 0, none⟩ = some (.int .i64 p) ∧ w'.cell? ⟨w.heap.size, 1, none⟩ = some (.int .i64 q) ∧ w'.cell? ⟨w.heap.size + 1, 0, none⟩ = some (.int .i64 x0) ∧ w'.cell? ⟨w.heap.size + 1, 1, none⟩ = some (.int .i64 y0) ∧ w'.cell? ⟨w.heap.size + 1, 2, none⟩ = some (.int .i64 x1) ∧ w'.cell? ⟨w.heap.size + 1, 3, none⟩ = some (.int .i64 y1) ∧ w.heap.size < w'.heap.size ∧ w.heap.size + 1 < w'.heap.size ∧ Grew w w')) (by kernel_rfl) (by ((try dsimp only); (refine ⟨?_, ?_, ?_, ?_, ?_, ?_, ?_, ?_, ?_⟩ <;> first | (go_keep; done) | omega | (simp [go_sem, *]; done) | ((try rw [World.cell?_drew]); (repeat rw [World.cell?_alloc_lt _ _ _ (by (try simp only [World.size_alloc]); omega)]); assumption) | (simp only [World.size_drew, World.size_alloc]; omega) | ((refine Grew.trans ?_ (by assumption)); simp [*]; done) | ((repeat (first | exact Grew.refl _ | assumption | refine Grew.drew ?_ | refine Grew.alloc ?_ _ | refine Grew.setCell ?_ (by (try simp only [World.size_alloc, World.size_drew]); omega) _ | refine Grew.trans ?_ (by assumption))); done)))) (fun hHeld => ?_)
  (try dsimp only at hHeld); (try simp only [World.cell?_drew, World.size_drew] at hHeld)
  first | ((refine wpAnyH_take (i := 0) (oi := ⟨(some 7), _, _, _, _, _⟩) (v := undef) rfl (by kernel_rfl) (by kernel_rfl) (by kernel_rfl) (fun _ _ _ h => h) (Or.inr ⟨by rfl, rfl⟩) (by assumption) ?_); (try simp only [Act.put, List.setIfInBounds_toArray, List.set_cons_zero, List.set_cons_succ])) | ((refine wpAnyH_take (i := 0) (oi := ⟨(some 7), _, _, _, _, _⟩) (v := ?_) rfl (by kernel_rfl) (by kernel_rfl) (by kernel_rfl) (fun _ _ _ h => h) (Or.inl ⟨by rfl, ?_⟩) (by assumption) ?_; rotate_left; focus ((intro w hSw; (try dsimp only at hSw); go_simp; (try with_reducible rfl)); done)); (try simp only [Act.put, List.setIfInBounds_toArray, List.set_cons_zero, List.set_cons_succ]))
  first | ((refine wpAnyH_take (i := 1) (oi := ⟨(some 8), _, _, _, _, _⟩) (v := undef) rfl (by kernel_rfl) (by kernel_rfl) (by kernel_rfl) (fun _ _ _ h => h) (Or.inr ⟨by rfl, rfl⟩) (by assumption) ?_); (try simp only [Act.put, List.setIfInBounds_toArray, List.set_cons_zero, List.set_cons_succ])) | ((refine wpAnyH_take (i := 1) (oi := ⟨(some 8), _, _, _, _, _⟩) (v := ?_) rfl (by kernel_rfl) (by kernel_rfl) (by kernel_rfl) (fun _ _ _ h => h) (Or.inl ⟨by rfl, ?_⟩) (by assumption) ?_; rotate_left; focus ((intro w hSw; (try dsimp only at hSw); go_simp; (try with_reducible rfl)); done)); (try simp only [Act.put, List.setIfInBounds_toArray, List.set_cons_zero, List.set_cons_succ]))
  first | ((refine wpAnyH_take (i := 2) (oi := ⟨(some 9), _, _, _, _, _⟩) (v := undef) rfl (by kernel_rfl) (by kernel_rfl) (by kernel_rfl) (fun _ _ _ h => h) (Or.inr ⟨by rfl, rfl⟩) (by assumption) ?_); (try simp only [Act.put, List.setIfInBounds_toArray, List.set_cons_zero, List.set_cons_succ])) | ((refine wpAnyH_take (i := 2) (oi := ⟨(some 9), _, _, _, _, _⟩) (v := ?_) rfl (by kernel_rfl) (by kernel_rfl) (by kernel_rfl) (fun _ _ _ h => h) (Or.inl ⟨by rfl, ?_⟩) (by assumption) ?_; rotate_left; focus ((intro w hSw; (try dsimp only at hSw); go_simp; (try with_reducible rfl)); done)); (try simp only [Act.put, List.setIfInBounds_toArray, List.set_cons_zero, List.set_cons_succ]))
  first | ((refine wpAnyH_take (i := 3) (oi := ⟨(some 10), _, _, _, _, _⟩) (v := undef) rfl (by kernel_rfl) (by kernel_rfl) (by kernel_rfl) (fun _ _ _ h => h) (Or.inr ⟨by rfl, rfl⟩) (by assumption) ?_); (try simp only [Act.put, List.setIfInBounds_toArray, List.set_cons_zero, List.set_cons_succ])) | ((refine wpAnyH_take (i := 3) (oi := ⟨(some 10), _, _, _, _, _⟩) (v := ?_) rfl (by kernel_rfl) (by kernel_rfl) (by kernel_rfl) (fun _ _ _ h => h) (Or.inl ⟨by rfl, ?_⟩) (by assumption) ?_; rotate_left; focus ((intro w hSw; (try dsimp only at hSw); go_simp; (try with_reducible rfl)); done)); (try simp only [Act.put, List.setIfInBounds_toArray, List.set_cons_zero, List.set_cons_succ]))
  first | ((refine wpAnyH_take (i := 4) (oi := ⟨(some 11), _, _, _, _, _⟩) (v := undef) rfl (by kernel_rfl) (by kernel_rfl) (by kernel_rfl) (fun _ _ _ h => h) (Or.inr ⟨by rfl, rfl⟩) (by assumption) ?_); (try simp only [Act.put, List.setIfInBounds_toArray, List.set_cons_zero, List.set_cons_succ])) | ((refine wpAnyH_take (i := 4) (oi := ⟨(some 11), _, _, _, _, _⟩) (v := ?_) rfl (by kernel_rfl) (by kernel_rfl) (by kernel_rfl) (fun _ _ _ h => h) (Or.inl ⟨by rfl, ?_⟩) (by assumption) ?_; rotate_left; focus ((intro w hSw; (try dsimp only at hSw); go_simp; (try with_reducible rfl)); done)); (try simp only [Act.put, List.setIfInBounds_toArray, List.set_cons_zero, List.set_cons_succ]))
  first | ((refine wpAnyH_take (i := 5) (oi := ⟨(some 12), _, _, _, _, _⟩) (v := undef) rfl (by kernel_rfl) (by kernel_rfl) (by kernel_rfl) (fun _ _ _ h => h) (Or.inr ⟨by rfl, rfl⟩) (by assumption) ?_); (try simp only [Act.put, List.setIfInBounds_toArray, List.set_cons_zero, List.set_cons_succ])) | ((refine wpAnyH_take (i := 5) (oi := ⟨(some 12), _, _, _, _, _⟩) (v := ?_) rfl (by kernel_rfl) (by kernel_rfl) (by kernel_rfl) (fun _ _ _ h => h) (Or.inl ⟨by rfl, ?_⟩) (by assumption) ?_; rotate_left; focus ((intro w hSw; (try dsimp only at hSw); go_simp; (try with_reducible rfl)); done)); (try simp only [Act.put, List.setIfInBounds_toArray, List.set_cons_zero, List.set_cons_succ]))
  first | ((refine wpAnyH_take (i := 7) (oi := ⟨(some 14), _, _, _, _, _⟩) (v := undef) rfl (by kernel_rfl) (by kernel_rfl) (by kernel_rfl) (fun _ _ _ h => h) (Or.inr ⟨by rfl, rfl⟩) (by assumption) ?_); (try simp only [Act.put, List.setIfInBounds_toArray, List.set_cons_zero, List.set_cons_succ])) | ((refine wpAnyH_take (i := 7) (oi := ⟨(some 14), _, _, _, _, _⟩) (v := ?_) rfl (by kernel_rfl) (by kernel_rfl) (by kernel_rfl) (fun _ _ _ h => h) (Or.inl ⟨by rfl, ?_⟩) (by assumption) ?_; rotate_left; focus ((intro w hSw; (try dsimp only at hSw); go_simp; (try with_reducible rfl)); done)); (try simp only [Act.put, List.setIfInBounds_toArray, List.set_cons_zero, List.set_cons_succ]))
  first | ((refine wpAnyH_take (i := 8) (oi := ⟨(some 15), _, _, _, _, _⟩) (v := undef) rfl (by kernel_rfl) (by kernel_rfl) (by kernel_rfl) (fun _ _ _ h => h) (Or.inr ⟨by rfl, rfl⟩) (by assumption) ?_); (try simp only [Act.put, List.setIfInBounds_toArray, List.set_cons_zero, List.set_cons_succ])) | ((refine wpAnyH_take (i := 8) (oi := ⟨(some 15), _, _, _, _, _⟩) (v := ?_) rfl (by kernel_rfl) (by kernel_rfl) (by kernel_rfl) (fun _ _ _ h => h) (Or.inl ⟨by rfl, ?_⟩) (by assumption) ?_; rotate_left; focus ((intro w hSw; (try dsimp only at hSw); go_simp; (try with_reducible rfl)); done)); (try simp only [Act.put, List.setIfInBounds_toArray, List.set_cons_zero, List.set_cons_succ]))
  first | ((refine wpAnyH_take (i := 9) (oi := ⟨(some 16), _, _, _, _, _⟩) (v := undef) rfl (by kernel_rfl) (by kernel_rfl) (by kernel_rfl) (fun _ _ _ h => h) (Or.inr ⟨by rfl, rfl⟩) (by assumption) ?_); (try simp only [Act.put, List.setIfInBounds_toArray, List.set_cons_zero, List.set_cons_succ])) | ((refine wpAnyH_take (i := 9) (oi := ⟨(some 16), _, _, _, _, _⟩) (v := ?_) rfl (by kernel_rfl) (by kernel_rfl) (by kernel_rfl) (fun _ _ _ h => h) (Or.inl ⟨by rfl, ?_⟩) (by assumption) ?_; rotate_left; focus ((intro w hSw; (try dsimp only at hSw); go_simp; (try with_reducible rfl)); done)); (try simp only [Act.put, List.setIfInBounds_toArray, List.set_cons_zero, List.set_cons_succ]))
  first | ((refine wpAnyH_take (i := 10) (oi := ⟨(some 17), _, _, _, _, _⟩) (v := undef) rfl (by kernel_rfl) (by kernel_rfl) (by kernel_rfl) (fun _ _ _ h => h) (Or.inr ⟨by rfl, rfl⟩) (by assumption) ?_); (try simp only [Act.put, List.setIfInBounds_toArray, List.set_cons_zero, List.set_cons_succ])) | ((refine wpAnyH_take (i := 10) (oi := ⟨(some 17), _, _, _, _, _⟩) (v := ?_) rfl (by kernel_rfl) (by kernel_rfl) (by kernel_rfl) (fun _ _ _ h => h) (Or.inl ⟨by rfl, ?_⟩) (by assumption) ?_; rotate_left; focus ((intro w hSw; (try dsimp only at hSw); go_simp; (try with_reducible rfl)); done)); (try simp only [Act.put, List.setIfInBounds_toArray, List.set_cons_zero, List.set_cons_succ]))
  first | ((refine wpAnyH_take (i := 11) (oi := ⟨(some 18), _, _, _, _, _⟩) (v := undef) rfl (by kernel_rfl) (by kernel_rfl) (by kernel_rfl) (fun _ _ _ h => h) (Or.inr ⟨by rfl, rfl⟩) (by assumption) ?_); (try simp only [Act.put, List.setIfInBounds_toArray, List.set_cons_zero, List.set_cons_succ])) | ((refine wpAnyH_take (i := 11) (oi := ⟨(some 18), _, _, _, _, _⟩) (v := ?_) rfl (by kernel_rfl) (by kernel_rfl) (by kernel_rfl) (fun _ _ _ h => h) (Or.inl ⟨by rfl, ?_⟩) (by assumption) ?_; rotate_left; focus ((intro w hSw; (try dsimp only at hSw); go_simp; (try with_reducible rfl)); done)); (try simp only [Act.put, List.setIfInBounds_toArray, List.set_cons_zero, List.set_cons_succ]))
  first | ((refine wpAnyH_take (i := 12) (oi := ⟨(some 19), _, _, _, _, _⟩) (v := undef) rfl (by kernel_rfl) (by kernel_rfl) (by kernel_rfl) (fun _ _ _ h => h) (Or.inr ⟨by rfl, rfl⟩) (by assumption) ?_); (try simp only [Act.put, List.setIfInBounds_toArray, List.set_cons_zero, List.set_cons_succ])) | ((refine wpAnyH_take (i := 12) (oi := ⟨(some 19), _, _, _, _, _⟩) (v := ?_) rfl (by kernel_rfl) (by kernel_rfl) (by kernel_rfl) (fun _ _ _ h => h) (Or.inl ⟨by rfl, ?_⟩) (by assumption) ?_; rotate_left; focus ((intro w hSw; (try dsimp only at hSw); go_simp; (try with_reducible rfl)); done)); (try simp only [Act.put, List.setIfInBounds_toArray, List.set_cons_zero, List.set_cons_succ]))
  first | ((refine wpAnyH_take (i := 6) (oi := ⟨(some 13), _, _, _, _, _⟩) (v := undef) rfl (by kernel_rfl) (by kernel_rfl) (by kernel_rfl) (fun _ _ _ h => h) (Or.inr ⟨by rfl, rfl⟩) (by assumption) ?_); (try simp only [Act.put, List.setIfInBounds_toArray, List.set_cons_zero, List.set_cons_succ])) | (refine wpAnyH_ready (rs := [6]) (by kernel_rfl) (by simp) ?_; refine AllReadyH.cons (o := ⟨(some 13), _, _, _, _, _⟩) rfl (fun K hK => ?_) AllReadyH.nil; go_simp; (go_at_call 41; refine (far_any _ _ _ _ (by omega) (by omega) (by omega) (by omega) (by omega) (by omega)).mono ?_; rintro e w' ⟨rfl, rfl⟩); refine hK.out _ _ (by ((try dsimp only); (refine ⟨?_, ?_, ?_, ?_, ?_, ?_, ?_, ?_, ?_⟩ <;> first | (go_keep; done) | omega | (simp [go_sem, *]; done) | ((try rw [World.cell?_drew]); (repeat rw [World.cell?_alloc_lt _ _ _ (by (try simp only [World.size_alloc]); omega)]); assumption) | (simp only [World.size_drew, World.size_alloc]; omega) | ((refine Grew.trans ?_ (by assumption)); simp [*]; done) | ((repeat (first | exact Grew.refl _ | assumption | refine Grew.drew ?_ | refine Grew.alloc ?_ _ | refine Grew.setCell ?_ (by (try simp only [World.size_alloc, World.size_drew]); omega) _ | refine Grew.trans ?_ (by assumption))); done)))) (fun hHeldN => ?_); clear hK K hHeld; have hHeld := hHeldN; clear hHeldN; (try dsimp only at hHeld); (try simp only [World.cell?_drew, World.size_drew] at hHeld); (try simp only [Act.put, List.setIfInBounds_toArray, List.set_cons_zero, List.set_cons_succ]))
  first | ((refine wpAnyH_take (i := 13) (oi := ⟨(some 20), _, _, _, _, _⟩) (v := undef) rfl (by kernel_rfl) (by kernel_rfl) (by kernel_rfl) (fun _ _ _ h => h) (Or.inr ⟨by rfl, rfl⟩) (by assumption) ?_); (try simp only [Act.put, List.setIfInBounds_toArray, List.set_cons_zero, List.set_cons_succ])) | (refine wpAnyH_ready (rs := [13]) (by kernel_rfl) (by simp) ?_; refine AllReadyH.cons (o := ⟨(some 20), _, _, _, _, _⟩) rfl (fun K hK => ?_) AllReadyH.nil; go_simp; (go_at_call 41; refine (far_any _ _ _ _ (by omega) (by omega) (by omega) (by omega) (by omega) (by omega)).mono ?_; rintro e w' ⟨rfl, rfl⟩); refine hK.out _ _ (by ((try dsimp only); (refine ⟨?_, ?_, ?_, ?_, ?_, ?_, ?_, ?_, ?_⟩ <;> first | (go_keep; done) | omega | (simp [go_sem, *]; done) | ((try rw [World.cell?_drew]); (repeat rw [World.cell?_alloc_lt _ _ _ (by (try simp only [World.size_alloc]); omega)]); assumption) | (simp only [World.size_drew, World.size_alloc]; omega) | ((refine Grew.trans ?_ (by assumption)); simp [*]; done) | ((repeat (first | exact Grew.refl _ | assumption | refine Grew.drew ?_ | refine Grew.alloc ?_ _ | refine Grew.setCell ?_ (by (try simp only [World.size_alloc, World.size_drew]); omega) _ | refine Grew.trans ?_ (by assumption))); done)))) (fun hHeldN => ?_); clear hK K hHeld; have hHeld := hHeldN; clear hHeldN; (try dsimp only at hHeld); (try simp only [World.cell?_drew, World.size_drew] at hHeld); (try simp only [Act.put, List.setIfInBounds_toArray, List.set_cons_zero, List.set_cons_succ]))
  first | ((refine wpAnyH_take (i := 14) (oi := ⟨(some 5), _, _, _, _, _⟩) (v := undef) rfl (by kernel_rfl) (by kernel_rfl) (by kernel_rfl) (fun _ _ _ h => h) (Or.inr ⟨by rfl, rfl⟩) (by assumption) ?_); (try simp only [Act.put, List.setIfInBounds_toArray, List.set_cons_zero, List.set_cons_succ])) | ((refine wpAnyH_take (i := 14) (oi := ⟨(some 5), _, _, _, _, _⟩) (v := ?_) rfl (by kernel_rfl) (by kernel_rfl) (by kernel_rfl) (fun _ _ _ h => h) (Or.inl ⟨by rfl, ?_⟩) (by assumption) ?_; rotate_left; focus ((intro w hSw; (try dsimp only at hSw); go_simp; (try with_reducible rfl)); done)); (try simp only [Act.put, List.setIfInBounds_toArray, List.set_cons_zero, List.set_cons_succ]))
  first | ((refine wpAnyH_take (i := 15) (oi := ⟨(some 6), _, _, _, _, _⟩) (v := undef) rfl (by kernel_rfl) (by kernel_rfl) (by kernel_rfl) (fun _ _ _ h => h) (Or.inr ⟨by rfl, rfl⟩) (by assumption) ?_); (try simp only [Act.put, List.setIfInBounds_toArray, List.set_cons_zero, List.set_cons_succ])) | ((refine wpAnyH_take (i := 15) (oi := ⟨(some 6), _, _, _, _, _⟩) (v := ?_) rfl (by kernel_rfl) (by kernel_rfl) (by kernel_rfl) (fun _ _ _ h => h) (Or.inl ⟨by rfl, ?_⟩) (by assumption) ?_; rotate_left; focus ((intro w hSw; (try dsimp only at hSw); go_simp; (try with_reducible rfl)); done)); (try simp only [Act.put, List.setIfInBounds_toArray, List.set_cons_zero, List.set_cons_succ]))
  refine wpAnyH_done (by kernel_rfl) ?_ _
  obtain ⟨hH0, hH1, hH2, hH3, hH4, hH5, hH6, hH7, hH8⟩ := hHeld
  go_wp2
  go_ret
  exact ⟨by rw [E.out]; rfl, by simp [*]⟩

def smallB (x y : Int) : Bool := withinB x 1048576 && withinB y 1048576
theorem small_any (x y : Int) (w : World) :
    Calls Tryd.prog 22 #[.agg #[.int .i64 x, .int .i64 y]] w fun e w' => e = .returned (.bool (smallB x y)) ∧ Grew w w' := by
  cases h1 : withinB x 1048576
  all_goals
    go_enter Tryd.func22, Tryd.ntmps22
    go_wp2_with (go_at_call 38; refine (rin_any _ _ _ (by omega) (by omega)).mono ?_; rintro e w' ⟨rfl, rfl⟩)
    go_ret
    exact ⟨by simp [smallB, h1], (Grew.refl _).alloc _⟩

theorem turn_any (x0 y0 x1 y1 : Int) (w : World) :
    Calls Tryd.prog 24 #[.agg #[.int .i64 x0, .int .i64 y0, .int .i64 x1, .int .i64 y1]] w fun e w' => e = .returned (.agg #[.int .i64 y0, .int .i64 x0, .int .i64 y1, .int .i64 x1]) ∧ Grew w w' := by
  go_enter Tryd.func24, Tryd.ntmps24
  go_wp2
  exact bodyPost_ret (v := .agg #[.int .i64 y0, .int .i64 x0, .int .i64 y1, .int .i64 x1]) (by simp [results, Tryd.results24, go_sem, *]) rfl ⟨rfl, (by repeat (first | exact Grew.refl _ | assumption | refine Grew.drew ?_ | refine Grew.alloc ?_ _ | refine Grew.setCell ?_ (by (try simp only [World.size_alloc, World.size_drew]); omega) _ | refine Grew.trans ?_ (by assumption)))⟩
end Go.Proofs.YtlaiikahgioonaaDoor

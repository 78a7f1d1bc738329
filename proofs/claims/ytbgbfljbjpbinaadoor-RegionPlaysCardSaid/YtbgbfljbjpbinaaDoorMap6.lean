/- The walks of slices.Clone at integers and of (*tiles.Map).Clone. Conditions: the map's cells. -/
import Derived.Test.YtbgbfljbjpbinaaDoorRMap1
import Derived.Lib.SliceRun
import Derived.Laws.Cover3
namespace Go.Proofs.YtbgbfljbjpbinaaDoor
set_option linter.unusedSimpArgs false
set_option linter.unusedVariables false
open Go.RowKit

theorem Own.cellsAt {w : World} {B g n cap : Nat} {L : List Int} (h : Own w B (.slice (some ⟨g, 0, none⟩) n cap) L) (hn : 0 < n) : g < w.heap.size ∧ (∀ k x, L[k]? = some x → w.cell? ⟨g, k, none⟩ = some (.int .i64 x)) ∧ ∀ o, w.frozen? ⟨g, o, none⟩ = false := by
  rcases h.raw.2 with ⟨e, _⟩ | ⟨b, cap', cur, e, hb, hgg, hc, hm, hs, ht⟩
  · cases e
  · simp only [Value.slice.injEq, Option.some.injEq, Addr.mk.injEq, and_true] at e
    obtain ⟨rfl, _, rfl⟩ := e
    refine ⟨(Array.getElem?_eq_some_iff.1 hgg).1, fun k x hx => ?_, fun o => ?_⟩
    · have hk : k < L.length := (List.getElem?_eq_some_iff.1 hx).1
      rw [cell_of_row w g k cur 3 (0, 0) hgg]
      have hu : (L.map (Value.int .i64))[k]? = some (.int .i64 x) := by rw [List.getElem?_map, hx]; rfl
      rw [← ht, List.getElem?_take, if_pos (by omega)] at hu
      simpa using hu
    · simp [World.frozen?, hgg]

set_option maxRecDepth 100000 in
set_option maxHeartbeats 4000000 in
theorem sclone_core (C N K : Nat) (c : Nat → Int) (w : World) (hcs : ∀ k, k < N → w.cell? ⟨C, k, none⟩ = some (.int .i64 (c k))) (hN0 : 0 < N) (hN : N ≤ 1024) (hC : C < w.heap.size) :
    Calls Tryd.prog 64 #[.slice (some ⟨C, 0, none⟩) N K] w fun e w' => (∃ D K', e = .returned (.slice (some ⟨D, 0, none⟩) N K') ∧ w.heap.size ≤ D ∧ D < w'.heap.size ∧ (∀ k, k < N → w'.cell? ⟨D, k, none⟩ = some (.int .i64 (c k))) ∧ ∀ o, w'.frozen? ⟨D, o, none⟩ = false) ∧ Grew w w' := by
  have HC : Hid (∀ k, k < N → w.cell? ⟨C, k, none⟩ = some (.int .i64 (c k))) := hcs
  clear hcs
  obtain ⟨i0, hi0, hi1, hi2, hi3⟩ := info_parts infoInt
  obtain ⟨L, hL⟩ : ∃ L, L = (List.range N).map c := ⟨_, rfl⟩
  have HLen : Hid (L.length = N) := by show _ = _; rw [hL]; simp
  have HL : Hid (∀ k x, L[k]? = some x → k < N ∧ x = c k) := fun k x hx => by
    rw [hL, List.getElem?_map] at hx
    by_cases hk : k < N
    · simp [hk] at hx; exact ⟨hk, hx.symm⟩
    · simp [hk] at hx
  have HL2 : Hid (∀ k, k < N → L[k]? = some (c k)) := fun k hk => by rw [hL]; simp [hk]
  clear hL
  have heq := fun w : World => Lib.run_eql_slice_nil (P := Tryd.prog) w 28 3 (some ⟨C, 0, none⟩) N K 0 0 Tryd.underlying28
  simp only [Option.isNone_some] at heq
  go_enter Tryd.func64, Tryd.ntmps64
  go_wp2_with (at_builtin; refine wpList_append_lies _ rfl _ _ 28 rfl w.heap.size 3 i0 (.int .i64 0) 1 8 Tryd.underlying28 hi0 hi1 hi2 hi3 rfl (by decide) _ _ _ rfl (OutAt.start w w.heap.size).own.raw ⟨C, 0, none⟩ N K (L.map (Value.int .i64)) rfl ?c0 ?c1 ?c2 hN0 ?c3 ?c4 ?c5 _ rfl ?_)
  case c0 => rw [List.length_map, HLen.out, Nat.mul_one]
  case c1 =>
    intro j u hj
    rw [List.getElem?_map] at hj
    cases hx : L[j]? with
    | none => rw [hx] at hj; cases hj
    | some x =>
      rw [hx] at hj
      obtain ⟨h1, rfl⟩ := HL.out j x hx
      simp at hj; subst hj
      have hadd : (Addr.mk C 0 none).add j = ⟨C, j, none⟩ := by unfold Addr.add; split <;> simp [*]
      rw [hadd]
      exact (World.cell?_alloc_lt _ _ _ hC).trans (HC.out j h1)
  case c2 => intro u hu; simp at hu; obtain ⟨x, _, rfl⟩ := hu; rfl
  case c3 => simp; unfold maxLen; omega
  case c4 => simp; omega
  case c5 => simp
  · intro g cap w4 hown' hgrow hat hlt
    have hO : Own w4 w.heap.size (.slice (some ⟨g, 0, none⟩) N cap) L := by
      unfold Own
      rw [HLen.out]
      simpa using hown'
    have hgg : w.heap.size ≤ g := by
      rcases hat with e | e
      · simp [Value.ownBlock] at e; omega
      · rw [e]; simp
    obtain ⟨k1, k2, k3⟩ := hO.cellsAt hN0
    have HK2 : Hid (∀ k, k < N → w4.cell? ⟨g, k, none⟩ = some (.int .i64 (c k))) := fun k hk => k2 k _ (HL2.out k hk)
    have HK3 : Hid (∀ o, w4.frozen? ⟨g, o, none⟩ = false) := k3
    have HGr : Hid (Grew w w4) := by
      refine Below.grown ((Grew.refl w).alloc _).below hgrow (by simp) (fun k hk => ?_)
      simp [Value.ownBlock] at hk; omega
    clear hown' hgrow hat hO k2 k3
    go_wp2
    refine bodyPost_ret (v := .slice (some ⟨g, 0, none⟩) N cap) (by simp [results, Tryd.results64, go_sem, *]) rfl ⟨⟨g, cap, rfl, hgg, k1, HK2.out, HK3.out⟩, HGr.out⟩

set_option maxRecDepth 100000 in
set_option maxHeartbeats 4000000 in
theorem clone_any (P C N : Nat) (W H S X Y : Int) (c : Nat → Int) (w : World) (hM : MapAt w P C N W H S X Y c) (hN0 : 0 < N) (hN : N ≤ 1024) :
    Calls Tryd.prog 40 #[.pointer (some ⟨P, 0, none⟩)] w fun e w' => (∃ Q D, e = .returned (.pointer (some ⟨Q, 0, none⟩)) ∧ MapAt w' Q D N W H S X Y c ∧ w.heap.size ≤ Q ∧ w.heap.size ≤ D) ∧ Grew w w' := by
  have HC : Hid (∀ k, k < N → w.cell? ⟨C, k, none⟩ = some (.int .i64 (c k))) := hM.cs
  obtain ⟨g0, g1, g2, g3, g4, ⟨Kc, gs⟩, _, _, hne, hP, hC⟩ := hM
  go_enter Tryd.func40, Tryd.ntmps40
  go_wp2_with fail
  refine wp_region_held_drew (S := (fun w' => w'.cell? ⟨P, 0, none⟩ = some (.int .i64 W) ∧ w'.cell? ⟨P, 1, none⟩ = some (.int .i64 H) ∧ w'.cell? ⟨P, 2, none⟩ = some (.int .i64 S) ∧ w'.cell? ⟨P, 3, none⟩ = some (.int .i64 X) ∧ w'.cell? ⟨P, 4, none⟩ = some (.int .i64 Y) ∧ w'.cell? ⟨P, 5, none⟩ = some ((.slice (some ⟨C, 0, none⟩) N Kc)) ∧ P < w'.heap.size ∧ Grew w w')) (by kernel_rfl) (by ((try dsimp only); (refine ⟨?_, ?_, ?_, ?_, ?_, ?_, ?_, ?_⟩ <;> first | (go_keep; done) | omega | (simp [go_sem, *]; done) | ((try rw [World.cell?_drew]); (repeat rw [World.cell?_alloc_lt _ _ _ (by (try simp only [World.size_alloc]); omega)]); assumption) | (simp only [World.size_drew, World.size_alloc]; omega) | ((refine Grew.trans ?_ (by assumption)); simp [*]; done) | ((repeat (first | exact Grew.refl _ | assumption | refine Grew.drew ?_ | refine Grew.alloc ?_ _ | refine Grew.setCell ?_ (by (try simp only [World.size_alloc, World.size_drew]); omega) _ | refine Grew.trans ?_ (by assumption))); done)))) (fun hHeld => ?_)
  (try dsimp only at hHeld); (try simp only [World.cell?_drew, World.size_drew] at hHeld)
  first | ((refine wpAnyH_take (i := 0) (oi := ⟨(some 3), _, _, _, _, _⟩) (v := undef) rfl (by kernel_rfl) (by kernel_rfl) (by kernel_rfl) (fun _ _ _ h => h) (Or.inr ⟨by rfl, rfl⟩) (by assumption) ?_); (try simp only [Act.put, List.setIfInBounds_toArray, List.set_cons_zero, List.set_cons_succ])) | ((refine wpAnyH_take (i := 0) (oi := ⟨(some 3), _, _, _, _, _⟩) (v := ?_) rfl (by kernel_rfl) (by kernel_rfl) (by kernel_rfl) (fun _ _ _ h => h) (Or.inl ⟨by rfl, ?_⟩) (by assumption) ?_; rotate_left; focus ((intro w hSw; (try dsimp only at hSw); go_simp; (try with_reducible rfl)); done)); (try simp only [Act.put, List.setIfInBounds_toArray, List.set_cons_zero, List.set_cons_succ]))
  first | ((refine wpAnyH_take (i := 1) (oi := ⟨(some 4), _, _, _, _, _⟩) (v := undef) rfl (by kernel_rfl) (by kernel_rfl) (by kernel_rfl) (fun _ _ _ h => h) (Or.inr ⟨by rfl, rfl⟩) (by assumption) ?_); (try simp only [Act.put, List.setIfInBounds_toArray, List.set_cons_zero, List.set_cons_succ])) | ((refine wpAnyH_take (i := 1) (oi := ⟨(some 4), _, _, _, _, _⟩) (v := ?_) rfl (by kernel_rfl) (by kernel_rfl) (by kernel_rfl) (fun _ _ _ h => h) (Or.inl ⟨by rfl, ?_⟩) (by assumption) ?_; rotate_left; focus ((intro w hSw; (try dsimp only at hSw); go_simp; (try with_reducible rfl)); done)); (try simp only [Act.put, List.setIfInBounds_toArray, List.set_cons_zero, List.set_cons_succ]))
  first | ((refine wpAnyH_take (i := 2) (oi := ⟨(some 5), _, _, _, _, _⟩) (v := undef) rfl (by kernel_rfl) (by kernel_rfl) (by kernel_rfl) (fun _ _ _ h => h) (Or.inr ⟨by rfl, rfl⟩) (by assumption) ?_); (try simp only [Act.put, List.setIfInBounds_toArray, List.set_cons_zero, List.set_cons_succ])) | ((refine wpAnyH_take (i := 2) (oi := ⟨(some 5), _, _, _, _, _⟩) (v := ?_) rfl (by kernel_rfl) (by kernel_rfl) (by kernel_rfl) (fun _ _ _ h => h) (Or.inl ⟨by rfl, ?_⟩) (by assumption) ?_; rotate_left; focus ((intro w hSw; (try dsimp only at hSw); go_simp; (try with_reducible rfl)); done)); (try simp only [Act.put, List.setIfInBounds_toArray, List.set_cons_zero, List.set_cons_succ]))
  first | ((refine wpAnyH_take (i := 3) (oi := ⟨(some 6), _, _, _, _, _⟩) (v := undef) rfl (by kernel_rfl) (by kernel_rfl) (by kernel_rfl) (fun _ _ _ h => h) (Or.inr ⟨by rfl, rfl⟩) (by assumption) ?_); (try simp only [Act.put, List.setIfInBounds_toArray, List.set_cons_zero, List.set_cons_succ])) | ((refine wpAnyH_take (i := 3) (oi := ⟨(some 6), _, _, _, _, _⟩) (v := ?_) rfl (by kernel_rfl) (by kernel_rfl) (by kernel_rfl) (fun _ _ _ h => h) (Or.inl ⟨by rfl, ?_⟩) (by assumption) ?_; rotate_left; focus ((intro w hSw; (try dsimp only at hSw); go_simp; (try with_reducible rfl)); done)); (try simp only [Act.put, List.setIfInBounds_toArray, List.set_cons_zero, List.set_cons_succ]))
  first | ((refine wpAnyH_take (i := 4) (oi := ⟨(some 7), _, _, _, _, _⟩) (v := undef) rfl (by kernel_rfl) (by kernel_rfl) (by kernel_rfl) (fun _ _ _ h => h) (Or.inr ⟨by rfl, rfl⟩) (by assumption) ?_); (try simp only [Act.put, List.setIfInBounds_toArray, List.set_cons_zero, List.set_cons_succ])) | ((refine wpAnyH_take (i := 4) (oi := ⟨(some 7), _, _, _, _, _⟩) (v := ?_) rfl (by kernel_rfl) (by kernel_rfl) (by kernel_rfl) (fun _ _ _ h => h) (Or.inl ⟨by rfl, ?_⟩) (by assumption) ?_; rotate_left; focus ((intro w hSw; (try dsimp only at hSw); go_simp; (try with_reducible rfl)); done)); (try simp only [Act.put, List.setIfInBounds_toArray, List.set_cons_zero, List.set_cons_succ]))
  first | ((refine wpAnyH_take (i := 5) (oi := ⟨(some 8), _, _, _, _, _⟩) (v := undef) rfl (by kernel_rfl) (by kernel_rfl) (by kernel_rfl) (fun _ _ _ h => h) (Or.inr ⟨by rfl, rfl⟩) (by assumption) ?_); (try simp only [Act.put, List.setIfInBounds_toArray, List.set_cons_zero, List.set_cons_succ])) | ((refine wpAnyH_take (i := 5) (oi := ⟨(some 8), _, _, _, _, _⟩) (v := ?_) rfl (by kernel_rfl) (by kernel_rfl) (by kernel_rfl) (fun _ _ _ h => h) (Or.inl ⟨by rfl, ?_⟩) (by assumption) ?_; rotate_left; focus ((intro w hSw; (try dsimp only at hSw); go_simp; (try with_reducible rfl)); done)); (try simp only [Act.put, List.setIfInBounds_toArray, List.set_cons_zero, List.set_cons_succ]))
  first | ((refine wpAnyH_take (i := 6) (oi := ⟨(some 9), _, _, _, _, _⟩) (v := undef) rfl (by kernel_rfl) (by kernel_rfl) (by kernel_rfl) (fun _ _ _ h => h) (Or.inr ⟨by rfl, rfl⟩) (by assumption) ?_); (try simp only [Act.put, List.setIfInBounds_toArray, List.set_cons_zero, List.set_cons_succ])) | ((refine wpAnyH_take (i := 6) (oi := ⟨(some 9), _, _, _, _, _⟩) (v := ?_) rfl (by kernel_rfl) (by kernel_rfl) (by kernel_rfl) (fun _ _ _ h => h) (Or.inl ⟨by rfl, ?_⟩) (by assumption) ?_; rotate_left; focus ((intro w hSw; (try dsimp only at hSw); go_simp; (try with_reducible rfl)); done)); (try simp only [Act.put, List.setIfInBounds_toArray, List.set_cons_zero, List.set_cons_succ]))
  first | ((refine wpAnyH_take (i := 7) (oi := ⟨(some 10), _, _, _, _, _⟩) (v := undef) rfl (by kernel_rfl) (by kernel_rfl) (by kernel_rfl) (fun _ _ _ h => h) (Or.inr ⟨by rfl, rfl⟩) (by assumption) ?_); (try simp only [Act.put, List.setIfInBounds_toArray, List.set_cons_zero, List.set_cons_succ])) | ((refine wpAnyH_take (i := 7) (oi := ⟨(some 10), _, _, _, _, _⟩) (v := ?_) rfl (by kernel_rfl) (by kernel_rfl) (by kernel_rfl) (fun _ _ _ h => h) (Or.inl ⟨by rfl, ?_⟩) (by assumption) ?_; rotate_left; focus ((intro w hSw; (try dsimp only at hSw); go_simp; (try with_reducible rfl)); done)); (try simp only [Act.put, List.setIfInBounds_toArray, List.set_cons_zero, List.set_cons_succ]))
  first | ((refine wpAnyH_take (i := 8) (oi := ⟨(some 11), _, _, _, _, _⟩) (v := undef) rfl (by kernel_rfl) (by kernel_rfl) (by kernel_rfl) (fun _ _ _ h => h) (Or.inr ⟨by rfl, rfl⟩) (by assumption) ?_); (try simp only [Act.put, List.setIfInBounds_toArray, List.set_cons_zero, List.set_cons_succ])) | (refine wpAnyH_ready (rs := [8]) (by kernel_rfl) (by simp) ?_; refine AllReadyH.cons (o := ⟨(some 11), _, _, _, _, _⟩) rfl (fun K hK => ?_) AllReadyH.nil; go_simp; ((go_at_call 64; refine (sclone_core C N Kc c _ (fun k hk => ((Grew.facts (W := w) (by repeat (first | exact Grew.refl _ | assumption | refine Grew.drew ?_ | refine Grew.alloc ?_ _ | refine Grew.setCell ?_ (by (try simp only [World.size_alloc, World.size_drew]); omega) _ | refine Grew.trans ?_ (by assumption)))).1 _ _ hC).trans (HC.out k hk)) hN0 hN (by (try simp only [World.size_drew]); omega)).mono ?_; rintro e w1 ⟨⟨D, K', rfl, hD0, hD1, hDc, hDf⟩, hb⟩; obtain ⟨hc, hf⟩ := hb.facts; have hz := hb.size; (try simp only [World.size_alloc, World.size_drew] at hz); (try (have hcq := fun o => hc (P) o (by (try simp only [World.size_alloc, World.size_drew]); omega))); (try (have hq : P < w1.heap.size := by omega)))); refine hK.out _ _ (by ((try dsimp only); (refine ⟨?_, ?_, ?_, ?_, ?_, ?_, ?_, ?_⟩ <;> first | (go_keep; done) | omega | (simp [go_sem, *]; done) | ((try rw [World.cell?_drew]); (repeat rw [World.cell?_alloc_lt _ _ _ (by (try simp only [World.size_alloc]); omega)]); assumption) | (simp only [World.size_drew, World.size_alloc]; omega) | ((refine Grew.trans ?_ (by assumption)); simp [*]; done) | ((repeat (first | exact Grew.refl _ | assumption | refine Grew.drew ?_ | refine Grew.alloc ?_ _ | refine Grew.setCell ?_ (by (try simp only [World.size_alloc, World.size_drew]); omega) _ | refine Grew.trans ?_ (by assumption))); done)))) (fun hHeldN => ?_); clear hK K hHeld; have hHeld := hHeldN; clear hHeldN; (try dsimp only at hHeld); (try simp only [World.cell?_drew, World.size_drew] at hHeld); (try simp only [Act.put, List.setIfInBounds_toArray, List.set_cons_zero, List.set_cons_succ]))
  first | ((refine wpAnyH_take (i := 9) (oi := ⟨(some 12), _, _, _, _, _⟩) (v := undef) rfl (by kernel_rfl) (by kernel_rfl) (by kernel_rfl) (fun _ _ _ h => h) (Or.inr ⟨by rfl, rfl⟩) (by assumption) ?_); (try simp only [Act.put, List.setIfInBounds_toArray, List.set_cons_zero, List.set_cons_succ])) | ((refine wpAnyH_take (i := 9) (oi := ⟨(some 12), _, _, _, _, _⟩) (v := ?_) rfl (by kernel_rfl) (by kernel_rfl) (by kernel_rfl) (fun _ _ _ h => h) (Or.inl ⟨by rfl, ?_⟩) (by assumption) ?_; rotate_left; focus ((intro w hSw; (try dsimp only at hSw); go_simp; (try with_reducible rfl)); done)); (try simp only [Act.put, List.setIfInBounds_toArray, List.set_cons_zero, List.set_cons_succ]))
  first | ((refine wpAnyH_take (i := 10) (oi := ⟨(some 13), _, _, _, _, _⟩) (v := undef) rfl (by kernel_rfl) (by kernel_rfl) (by kernel_rfl) (fun _ _ _ h => h) (Or.inr ⟨by rfl, rfl⟩) (by assumption) ?_); (try simp only [Act.put, List.setIfInBounds_toArray, List.set_cons_zero, List.set_cons_succ])) | (refine wpAnyH_ready (rs := [10]) (by kernel_rfl) (by simp) ?_; refine AllReadyH.cons (o := ⟨(some 13), _, _, _, _, _⟩) rfl (fun K hK => ?_) AllReadyH.nil; go_simp; refine hK.out _ _ (by ((try dsimp only); (refine ⟨?_, ?_, ?_, ?_, ?_, ?_, ?_, ?_⟩ <;> first | (go_keep; done) | omega | (simp [go_sem, *]; done) | ((try rw [World.cell?_drew]); (repeat rw [World.cell?_alloc_lt _ _ _ (by (try simp only [World.size_alloc]); omega)]); assumption) | (simp only [World.size_drew, World.size_alloc]; omega) | ((refine Grew.trans ?_ (by assumption)); simp [*]; done) | ((repeat (first | exact Grew.refl _ | assumption | refine Grew.drew ?_ | refine Grew.alloc ?_ _ | refine Grew.setCell ?_ (by (try simp only [World.size_alloc, World.size_drew]); omega) _ | refine Grew.trans ?_ (by assumption))); done)))) (fun hHeldN => ?_); clear hK K hHeld; have hHeld := hHeldN; clear hHeldN; (try dsimp only at hHeld); (try simp only [World.cell?_drew, World.size_drew] at hHeld); (try simp only [Act.put, List.setIfInBounds_toArray, List.set_cons_zero, List.set_cons_succ]))
  first | ((refine wpAnyH_take (i := 11) (oi := ⟨(some 2), _, _, _, _, _⟩) (v := undef) rfl (by kernel_rfl) (by kernel_rfl) (by kernel_rfl) (fun _ _ _ h => h) (Or.inr ⟨by rfl, rfl⟩) (by assumption) ?_); (try simp only [Act.put, List.setIfInBounds_toArray, List.set_cons_zero, List.set_cons_succ])) | ((refine wpAnyH_take (i := 11) (oi := ⟨(some 2), _, _, _, _, _⟩) (v := ?_) rfl (by kernel_rfl) (by kernel_rfl) (by kernel_rfl) (fun _ _ _ h => h) (Or.inl ⟨by rfl, ?_⟩) (by assumption) ?_; rotate_left; focus ((intro w hSw; (try dsimp only at hSw); go_simp; (try with_reducible rfl)); done)); (try simp only [Act.put, List.setIfInBounds_toArray, List.set_cons_zero, List.set_cons_succ]))
  refine wpAnyH_done (by kernel_rfl) ?_ _
  obtain ⟨hH0, hH1, hH2, hH3, hH4, hH5, hH6, hH7⟩ := hHeld
  go_wp2_with fail
  go_ret
  refine ⟨⟨w1.heap.size, D, rfl, ?_, by omega, by (try simp only [World.size_drew] at hD0); omega⟩, (by repeat (first | exact Grew.refl _ | assumption | refine Grew.drew ?_ | refine Grew.alloc ?_ _ | refine Grew.setCell ?_ (by (try simp only [World.size_alloc, World.size_drew]); omega) _ | refine Grew.trans ?_ (by assumption)))⟩
  refine ⟨by simp [go_sem], by simp [go_sem], by simp [go_sem], by simp [go_sem], by simp [go_sem], ⟨K', by simp [go_sem]⟩, fun k hk => ?_, fun o => ?_, by omega, by simp, by simp; omega⟩
  · exact (World.cell?_alloc_lt _ _ _ hD1).trans (hDc k hk)
  · have := hDf o
    simpa [go_sem, hD1] using this
end Go.Proofs.YtbgbfljbjpbinaaDoor

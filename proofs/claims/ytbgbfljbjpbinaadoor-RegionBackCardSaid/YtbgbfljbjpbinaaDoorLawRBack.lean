/- The walk of the law RegionBack: it answers true. Conditions: the sentinels' cells; the list's cells. -/
import Derived.Test.YtbgbfljbjpbinaaDoorSent
import Derived.Test.YtbgbfljbjpbinaaDoorReg19
namespace Go.Proofs.YtbgbfljbjpbinaaDoor
set_option linter.unusedSimpArgs false
set_option linter.unusedVariables false
open Go.RowKit Go.Maps

set_option maxRecDepth 100000 in
set_option maxHeartbeats 8000000 in
theorem regionBack_early (W H S X Y x : Int) (v : Option Addr) (n cap : Nat) (w : World) (a f b s : Addr) (hE : Sent w a f b s) (h : gridB W H S X Y = false) :
    Calls Tryd.prog 9 #[.agg #[.int .i64 W, .int .i64 H, .int .i64 S, .int .i64 X, .int .i64 Y], .slice v n cap, .int .i64 x] w fun e w' => e = .returned (.bool true) ∧ Grew w w' := by
  have HE : Hid (∀ wr, Grew w wr → Sent wr a f b s) := fun wr g => hE.grew g
  clear hE
  by_cases hn : 100 < n
  all_goals
    go_enter Tryd.func9, Tryd.ntmps9
    go_wp2_with (first | (go_at_call 30; refine (alive15_any _ a b s (HE.out _ (by repeat (first | exact Grew.refl _ | assumption | refine Grew.drew ?_ | refine Grew.alloc ?_ _ | refine Grew.setCell ?_ (by (try simp only [World.size_alloc, World.size_drew]); omega) _ | refine Grew.trans ?_ (by assumption)))).range (HE.out _ (by repeat (first | exact Grew.refl _ | assumption | refine Grew.drew ?_ | refine Grew.alloc ?_ _ | refine Grew.setCell ?_ (by (try simp only [World.size_alloc, World.size_drew]); omega) _ | refine Grew.trans ?_ (by assumption)))).blocked (HE.out _ (by repeat (first | exact Grew.refl _ | assumption | refine Grew.drew ?_ | refine Grew.alloc ?_ _ | refine Grew.setCell ?_ (by (try simp only [World.size_alloc, World.size_drew]); omega) _ | refine Grew.trans ?_ (by assumption)))).state).mono ?_; rintro e w1 ⟨rfl, hb⟩; obtain ⟨hc, hf⟩ := hb.facts; have hz := hb.size; (try simp only [World.size_alloc, World.size_drew] at hz); (try (have hcq := fun o => hc (w.heap.size) o (by (try simp only [World.size_alloc, World.size_drew]); omega))); (try (have hq : w.heap.size < w1.heap.size := by omega))) | (go_at_call 31; refine (rgnew_no _ _ _ _ _ _ a f (HE.out _ (by repeat (first | exact Grew.refl _ | assumption | refine Grew.drew ?_ | refine Grew.alloc ?_ _ | refine Grew.setCell ?_ (by (try simp only [World.size_alloc, World.size_drew]); omega) _ | refine Grew.trans ?_ (by assumption)))).range (HE.out _ (by repeat (first | exact Grew.refl _ | assumption | refine Grew.drew ?_ | refine Grew.alloc ?_ _ | refine Grew.setCell ?_ (by (try simp only [World.size_alloc, World.size_drew]); omega) _ | refine Grew.trans ?_ (by assumption)))).form h).mono ?_; rintro e w2 ⟨rfl, hb⟩; obtain ⟨hc, hf⟩ := hb.facts; have hz := hb.size; (try simp only [World.size_alloc, World.size_drew] at hz); (try (have hcq := fun o => hc (w.heap.size) o (by (try simp only [World.size_alloc, World.size_drew]); omega))); (try (have hq : w.heap.size < w2.heap.size := by omega))))
    go_ret
    exact ⟨rfl, (by repeat (first | exact Grew.refl _ | assumption | refine Grew.drew ?_ | refine Grew.alloc ?_ _ | refine Grew.setCell ?_ (by (try simp only [World.size_alloc, World.size_drew]); omega) _ | refine Grew.trans ?_ (by assumption)))⟩
set_option maxRecDepth 100000 in
set_option maxHeartbeats 8000000 in
theorem regionBack_long (W H : Nat) (S X Y x : Int) (v : Option Addr) (n cap : Nat) (w : World) (a f b s : Addr) (hE : Sent w a f b s) (h : gridB W H S X Y = true) (hn : 100 < n) :
    Calls Tryd.prog 9 #[.agg #[.int .i64 W, .int .i64 H, .int .i64 S, .int .i64 X, .int .i64 Y], .slice v n cap, .int .i64 x] w fun e w' => e = .returned (.bool true) ∧ Grew w w' := by
  have HE : Hid (∀ wr, Grew w wr → Sent wr a f b s) := fun wr g => hE.grew g
  obtain ⟨N, hN⟩ : ∃ N : Nat, N = W * H := ⟨_, rfl⟩
  have HNW : Hid (N = W * H) := hN
  clear hE hN
  go_enter Tryd.func9, Tryd.ntmps9
  go_wp2_with (first | (go_at_call 30; refine (alive15_any _ a b s (HE.out _ (by repeat (first | exact Grew.refl _ | assumption | refine Grew.drew ?_ | refine Grew.alloc ?_ _ | refine Grew.setCell ?_ (by (try simp only [World.size_alloc, World.size_drew]); omega) _ | refine Grew.trans ?_ (by assumption)))).range (HE.out _ (by repeat (first | exact Grew.refl _ | assumption | refine Grew.drew ?_ | refine Grew.alloc ?_ _ | refine Grew.setCell ?_ (by (try simp only [World.size_alloc, World.size_drew]); omega) _ | refine Grew.trans ?_ (by assumption)))).blocked (HE.out _ (by repeat (first | exact Grew.refl _ | assumption | refine Grew.drew ?_ | refine Grew.alloc ?_ _ | refine Grew.setCell ?_ (by (try simp only [World.size_alloc, World.size_drew]); omega) _ | refine Grew.trans ?_ (by assumption)))).state).mono ?_; rintro e w1 ⟨rfl, hb⟩; obtain ⟨hc, hf⟩ := hb.facts; have hz := hb.size; (try simp only [World.size_alloc, World.size_drew] at hz); (try (have hcq := fun o => hc (w.heap.size) o (by (try simp only [World.size_alloc, World.size_drew]); omega))); (try (have hq : w.heap.size < w1.heap.size := by omega))) | (go_at_call 31; refine (rgnew_yes W H N S X Y _ a (HE.out _ (by repeat (first | exact Grew.refl _ | assumption | refine Grew.drew ?_ | refine Grew.alloc ?_ _ | refine Grew.setCell ?_ (by (try simp only [World.size_alloc, World.size_drew]); omega) _ | refine Grew.trans ?_ (by assumption)))).range h HNW.out).mono ?_; rintro e w2 ⟨⟨P, L, M, rfl, hR1, hS1, hP0, hL0, hM0⟩, hb⟩; obtain ⟨hc, hf⟩ := hb.facts; have hz := hb.size; (try simp only [World.size_alloc, World.size_drew] at hz); (try (have hcq := fun o => hc (w.heap.size) o (by (try simp only [World.size_alloc, World.size_drew]); omega))); (try (have hq : w.heap.size < w2.heap.size := by omega))))
  go_ret
  exact ⟨rfl, (by repeat (first | exact Grew.refl _ | assumption | refine Grew.drew ?_ | refine Grew.alloc ?_ _ | refine Grew.setCell ?_ (by (try simp only [World.size_alloc, World.size_drew]); omega) _ | refine Grew.trans ?_ (by assumption)))⟩

set_option maxRecDepth 100000 in
set_option maxHeartbeats 8000000 in
theorem regionBack_any (W H : Nat) (S X Y x : Int) (v : Option Addr) (n cap : Nat) (w : World) (a f b s : Addr) (hE : Sent w a f b s) (hI : IntsIn w v n cap) (h : gridB W H S X Y = true) (hn : n ≤ 100) :
    Calls Tryd.prog 9 #[.agg #[.int .i64 W, .int .i64 H, .int .i64 S, .int .i64 X, .int .i64 Y], .slice v n cap, .int .i64 x] w fun e w' => e = .returned (.bool true) ∧ Grew w w' := by
  have HE : Hid (∀ wr, Grew w wr → Sent wr a f b s) := fun wr g => hE.grew g
  have HI : Hid (IntsIn w v n cap) := hI
  obtain ⟨_, ⟨g1, g2, g3, g4, g5, g6⟩, _, _, fA⟩ := grid_facts h
  obtain ⟨N, hN⟩ : ∃ N : Nat, N = W * H := ⟨_, rfl⟩
  have hNi : (W : Int) * (H : Int) = (N : Int) := by rw [hN]; push_cast; rfl
  have hN1 : N ≤ 1024 := by omega
  have hN0 : 0 < N := by omega
  have HNW : Hid (N = W * H) := hN
  have hNn : (N : Int) ≠ 0 := by omega
  have hNn' : ¬ N = 0 := by omega
  have hW1 : 1 ≤ W ∧ W ≤ 32 := by omega
  obtain ⟨i0, hi0, hi1, hi2, hi3⟩ := info_parts infoInt
  clear hE hI fA hN
  go_enter Tryd.func9, Tryd.ntmps9
  go_wp2_with fail
  (go_at_call 30; refine (alive15_any _ a b s (HE.out _ (by repeat (first | exact Grew.refl _ | assumption | refine Grew.drew ?_ | refine Grew.alloc ?_ _ | refine Grew.setCell ?_ (by (try simp only [World.size_alloc, World.size_drew]); omega) _ | refine Grew.trans ?_ (by assumption)))).range (HE.out _ (by repeat (first | exact Grew.refl _ | assumption | refine Grew.drew ?_ | refine Grew.alloc ?_ _ | refine Grew.setCell ?_ (by (try simp only [World.size_alloc, World.size_drew]); omega) _ | refine Grew.trans ?_ (by assumption)))).blocked (HE.out _ (by repeat (first | exact Grew.refl _ | assumption | refine Grew.drew ?_ | refine Grew.alloc ?_ _ | refine Grew.setCell ?_ (by (try simp only [World.size_alloc, World.size_drew]); omega) _ | refine Grew.trans ?_ (by assumption)))).state).mono ?_; rintro e w1 ⟨rfl, hb⟩; obtain ⟨hc, hf⟩ := hb.facts; have hz := hb.size; (try simp only [World.size_alloc, World.size_drew] at hz); (try (have hcq := fun o => hc (w.heap.size) o (by (try simp only [World.size_alloc, World.size_drew]); omega))); (try (have hq : w.heap.size < w1.heap.size := by omega)))
  have hGw1 : Grew w w1 := (by repeat (first | exact Grew.refl _ | assumption | refine Grew.drew ?_ | refine Grew.alloc ?_ _ | refine Grew.setCell ?_ (by (try simp only [World.size_alloc, World.size_drew]); omega) _ | refine Grew.trans ?_ (by assumption)))
  have hzw : w.heap.size < w1.heap.size := by assumption
  have e0 : w1.cell? ⟨w.heap.size, 0, none⟩ = some (.int .i64 W) := by simp [go_sem, *]
  have e1 : w1.cell? ⟨w.heap.size, 1, none⟩ = some (.int .i64 H) := by simp [go_sem, *]
  have HGD : Hid (w1.cell? ⟨w.heap.size, 0, none⟩ = some (.int .i64 W) ∧ w1.cell? ⟨w.heap.size, 1, none⟩ = some (.int .i64 H)) := ⟨e0, e1⟩
  clear e0 e1
  go_wp2_with fail
  (go_at_call 31; refine (rgnew_yes W H N S X Y _ a (HE.out _ (hGw1.trans (by repeat (first | exact Grew.refl _ | assumption | refine Grew.drew ?_ | refine Grew.alloc ?_ _ | refine Grew.setCell ?_ (by (try simp only [World.size_alloc, World.size_drew]); omega) _ | refine Grew.trans ?_ (by assumption))))).range h HNW.out).mono ?_; rintro e w2 ⟨⟨P, L, M, rfl, hR1, hS1, hP0, hL0, hM0⟩, hb⟩; obtain ⟨hc, hf⟩ := hb.facts; have hz := hb.size; (try simp only [World.size_alloc, World.size_drew] at hz); (try (have hcq := fun o => hc (w.heap.size) o (by (try simp only [World.size_alloc, World.size_drew]); omega))); (try (have hq : w.heap.size < w2.heap.size := by omega)))
  have hG12 : Grew w1 w2 := (by repeat (first | exact Grew.refl _ | assumption | refine Grew.drew ?_ | refine Grew.alloc ?_ _ | refine Grew.setCell ?_ (by (try simp only [World.size_alloc, World.size_drew]); omega) _ | refine Grew.trans ?_ (by assumption)))
  have hz12 := hG12.size
  have hz01 := hGw1.size
  have HRA : Hid (RgC w2 P L M N W H _ _ _) := new_c hW1.1 HNW.out hN0 hR1 hS1
  have hPL2 : P < w2.heap.size ∧ L < w2.heap.size ∧ M < w2.heap.size := ⟨hR1.hP, hR1.hL, hS1.lt⟩
  clear hR1 hS1
  go_wp2_with fail
  (go_at_call 31; refine (rgnew_yes W H N S X Y _ a (HE.out _ ((hGw1.trans hG12).trans (by repeat (first | exact Grew.refl _ | assumption | refine Grew.drew ?_ | refine Grew.alloc ?_ _ | refine Grew.setCell ?_ (by (try simp only [World.size_alloc, World.size_drew]); omega) _ | refine Grew.trans ?_ (by assumption))))).range h HNW.out).mono ?_; rintro e w3 ⟨⟨P', L', M', rfl, hR2, hS2, hP0', hL0', hM0'⟩, hb⟩; obtain ⟨hc, hf⟩ := hb.facts; have hz := hb.size; (try simp only [World.size_alloc, World.size_drew] at hz); (try (have hcq := fun o => hc (w.heap.size) o (by (try simp only [World.size_alloc, World.size_drew]); omega))); (try (have hq : w.heap.size < w3.heap.size := by omega)))
  have hG23 : Grew w2 w3 := (by repeat (first | exact Grew.refl _ | assumption | refine Grew.drew ?_ | refine Grew.alloc ?_ _ | refine Grew.setCell ?_ (by (try simp only [World.size_alloc, World.size_drew]); omega) _ | refine Grew.trans ?_ (by assumption)))
  have hz23 := hG23.size
  have HRA3 : Hid (RgC w3 P L M N W H _ _ _) := HRA.out.grew hG23
  have HRB : Hid (RgC w3 P' L' M' N W H _ _ _) := new_c hW1.1 HNW.out hN0 hR2 hS2
  have hPL3 : P' < w3.heap.size ∧ L' < w3.heap.size ∧ M' < w3.heap.size := ⟨hR2.hP, hR2.hL, hS2.lt⟩
  have hGw3 : Grew w w3 := (hGw1.trans hG12).trans hG23
  have hzw3 : w.heap.size < w3.heap.size := by omega
  clear hR2 hS2 HRA
  have hO0 : OutAt ((w3.alloc (.map #[] 0)).alloc (.cells #[] 3)) (w3.heap.size + 1) (w3.heap.size + 2) (.slice (some ⟨w3.heap.size + 1, 0, none⟩) 0 0) [] := by
    have h0 := OutAt.start (w3.alloc (.map #[] 0)) (w3.heap.size + 2)
    rw [World.size_alloc] at h0
    exact h0
  have hF0 : FirstAt ((w3.alloc (.map #[] 0)).alloc (.cells #[] 3)) w3.heap.size 0 (.map []) N (fun _ => false) := (FirstAt.start rfl).grew ((Grew.refl _).alloc _)
  have HO0 : Hid (OutAt ((w3.alloc (.map #[] 0)).alloc (.cells #[] 3)) (w3.heap.size + 1) (w3.heap.size + 2) (.slice (some ⟨w3.heap.size + 1, 0, none⟩) 0 0) []) := hO0
  have HF0 : Hid (FirstAt ((w3.alloc (.map #[] 0)).alloc (.cells #[] 3)) w3.heap.size 0 (.map []) N (fun _ => false)) := hF0
  clear hO0 hF0
  have hmm := run_makeMap (P := Tryd.prog) 62 w3
  go_wp2_with fail
  go_loopw [13, 62] (fun v i wr => ∃ (k : Nat) (Lq : List Int) (D : DataW Unit), k ≤ n ∧ i = .int .i64 k ∧ OutAt wr (w3.heap.size + 1) (w3.heap.size + 2) v Lq ∧ FirstAt wr w3.heap.size Lq.length D N (fun t => Lq.contains (t : Int)) ∧ Lq.length ≤ k ∧ Hid ((∀ x ∈ Lq, 0 ≤ x ∧ x < (N : Int)) ∧ Lq.Nodup) ∧ w3.heap.size + 2 ≤ wr.heap.size ∧ Grew w3 wr) (fun v i wr => n - (intOf i).toNat)
  case atStart => exact ⟨0, [], _, Nat.zero_le _, by simp, HO0.out, HF0.out.congr fun t => by simp, by simp, ⟨by simp, by simp⟩, by simp, (by repeat (first | exact Grew.refl _ | assumption | refine Grew.drew ?_ | refine Grew.alloc ?_ _ | refine Grew.setCell ?_ (by (try simp only [World.size_alloc, World.size_drew]); omega) _ | refine Grew.trans ?_ (by assumption)))⟩
  case round =>
    obtain ⟨k, Lq, D, hk, rfl, hO, hF, hLk, HN, hz3, hG⟩ := hrel
    have HO : Hid (OutAt wr (w3.heap.size + 1) (w3.heap.size + 2) _ Lq) := hO
    have HF : Hid (FirstAt wr w3.heap.size Lq.length D N (fun t => Lq.contains (t : Int))) := hF
    have HG : Hid (Grew w3 wr) := hG
    have hGw : Grew w wr := hGw3.trans hG
    clear hO hF
    by_cases hlt : k < n
    · rcases HI.out with h0 | ⟨bb, off, rfl, hc1, hc2, hbb, hcs⟩
      · omega
      obtain ⟨y, hy⟩ := hcs k hlt
      have hyc : wr.cell? ⟨bb, off + k, none⟩ = some (.int .i64 y) := (hGw.facts.1 _ _ hbb).trans hy
      obtain ⟨R, hRN, eR⟩ := uint_rem y hN0
      have hlook := HF.out.look hN1 hRN
      clear hcs hy
      cases hcn : Lq.contains (R : Int)
      · rw [hcn] at hlook
        have HNn : Hid ((∀ x ∈ Lq ++ [(R : Int)], 0 ≤ x ∧ x < (N : Int)) ∧ (Lq ++ [(R : Int)]).Nodup) := by
          refine ⟨fun x hx => ?_, ?_⟩
          · rcases List.mem_append.1 hx with e | e
            · exact HN.out.1 x e
            · simp at e; omega
          · rw [List.nodup_append]
            refine ⟨HN.out.2, by simp, fun x hx z hz e => ?_⟩
            simp at hz
            subst hz; subst e
            have : Lq.contains (R : Int) = true := by simpa using hx
            rw [hcn] at this; cases this
        have hwfR : (Lit.int .i64 (R : Int)).wf = true := WalkArith.wf_i64 (by omega)
        clear hcn
        obtain ⟨w5, hrun5, hown5, hgrow5⟩ := World.ownsMap.update (t := 62) HF.out.1 (int_keyed Tryd.underlying3) Tryd.underlying62 (by unfold maxLen; omega) (keyOf_int_mk Tryd.underlying3 hwfR) (plainElem_bool Tryd.underlying4 true)
        have hT5 : Turn w3.heap.size wr w5 := ⟨hgrow5.os, hgrow5.tape, hgrow5.output, hgrow5.size, fun i hi hne => hgrow5.block i hi (by simpa using hne)⟩
        have HO5 : Hid (OutAt w5 (w3.heap.size + 1) (w3.heap.size + 2) _ Lq) := HO.out.turn hT5 (by omega)
        have HF5 : Hid (FirstAt w5 w3.heap.size (Lq.length + 1) _ N (fun t => Lq.contains (t : Int) || decide (t = R))) := HF.out.mark hown5
        have HG5 : Hid (Grew w3 w5) := hT5.grew HG.out (Nat.le_refl _)
        have hz5 : w3.heap.size + 2 ≤ w5.heap.size := Nat.le_trans hz3 hT5.size
        clear hown5 hgrow5 hT5
        go_wp2_with (at_builtin; refine wpList_append_lies _ rfl _ _ 28 rfl (w3.heap.size + 1) 3 i0 (.int .i64 0) 1 8 Tryd.underlying28 hi0 hi1 hi2 hi3 rfl (by decide) _ _ _ rfl (HO5.out.own.raw.alloc _) ⟨_, 0, none⟩ 1 1 [.int .i64 R] rfl rfl ?c1 ?c2 (by decide) ?c3 ?c4 ?c5 _ rfl ?_)
        case c1 =>
          intro j u hj
          match j, hj with
          | 0, hj => simp at hj; subst hj; simp [Addr.add]
        case c2 => intro u hu; simp at hu; subst hu; rfl
        case c3 => unfold maxLen; omega
        case c4 => omega
        case c5 => simp; omega
        · intro g4 cap4 w6 hown' hgrow hat4 hlt4
          obtain ⟨hO1, hB1, hF1⟩ := HO5.out.next hown' hgrow hat4 (by simp) hz5 (by omega)
          have HO6 : Hid (OutAt w6 (w3.heap.size + 1) (w3.heap.size + 2) _ (Lq ++ [(R : Int)])) := hO1
          have HF6 : Hid (FirstAt w6 w3.heap.size (Lq ++ [(R : Int)]).length (D.put (.int .i64 (R : Int)) (.lit (.bool true))) N (fun t => (Lq ++ [(R : Int)]).contains (t : Int))) := by
            have := (HF5.out.block (hB1.block w3.heap.size (by omega))).congr (g := fun t => (Lq ++ [(R : Int)]).contains (t : Int)) fun t => by
              by_cases e : t = R
              · subst e; simp
              · have e' : ¬ (t : Int) = (R : Int) := by omega
                simp [e, e']
            rw [List.length_append]
            exact this
          have HG6 : Hid (Grew w3 w6) := HG5.out.reach hB1 (by omega)
          have hz6 : w3.heap.size + 2 ≤ w6.heap.size := Nat.le_trans hz5 hB1.size
          clear hown' hgrow hat4 hF1 hB1 hO1
          go_wp2_with fail
          go_roundw
          case rel => exact ⟨k + 1, Lq ++ [(R : Int)], _, by omega, by go_num, HO6.out, HF6.out, by simp; omega, HNn, hz6, HG6.out⟩
          case measure => simp [intOf]; omega
      · rw [hcn] at hlook
        clear hcn
        go_wp2_with fail
        go_roundw
        case rel => exact ⟨k + 1, Lq, D, by omega, by go_num, HO.out, HF.out, by omega, HN, hz3, HG.out⟩
        case measure => simp [intOf]; omega
    · obtain rfl : k = n := by omega
      obtain ⟨g, capL, rfl, hLs, hgE⟩ := HO.out.list
      obtain ⟨ql, hql⟩ : ∃ ql, ql = Lq.length := ⟨_, rfl⟩
      rw [← hql] at hLk ⊢
      have HQL : Hid (ql = Lq.length) := hql
      have HLs : Hid (ListAt wr g 0 capL Lq) := hLs
      have hglt := hLs.lt
      clear hLs hql
      go_wp2_with fail
      go_at_call 32
      refine (block_c P L M N W H _ _ _ g 0 capL Lq ql _ a b (HE.out _ (hGw.trans (by repeat (first | exact Grew.refl _ | assumption | refine Grew.drew ?_ | refine Grew.alloc ?_ _ | refine Grew.setCell ?_ (by (try simp only [World.size_alloc, World.size_drew]); omega) _ | refine Grew.trans ?_ (by assumption))))).range (HE.out _ (hGw.trans (by repeat (first | exact Grew.refl _ | assumption | refine Grew.drew ?_ | refine Grew.alloc ?_ _ | refine Grew.setCell ?_ (by (try simp only [World.size_alloc, World.size_drew]); omega) _ | refine Grew.trans ?_ (by assumption))))).blocked (HRA3.out.grew (HG.out.trans (by repeat (first | exact Grew.refl _ | assumption | refine Grew.drew ?_ | refine Grew.alloc ?_ _ | refine Grew.setCell ?_ (by (try simp only [World.size_alloc, World.size_drew]); omega) _ | refine Grew.trans ?_ (by assumption))))) hW1 HNW.out hN1 (HLs.out.grew (by repeat (first | exact Grew.refl _ | assumption | refine Grew.drew ?_ | refine Grew.alloc ?_ _ | refine Grew.setCell ?_ (by (try simp only [World.size_alloc, World.size_drew]); omega) _ | refine Grew.trans ?_ (by assumption)))) HQL.out (by omega) (by constructor <;> omega)).mono ?_
      rintro e w8 (⟨_, hno, _⟩ | ⟨_, _, hno, _⟩ | ⟨labA, DA, rfl, _, _, hRA8, hT8⟩)
      · exact absurd (fun i x hx => HN.out.1 x (List.mem_of_getElem? hx)) hno
      · refine absurd (fun i x hx => ⟨rfl, fun hm => ?_⟩) hno
        obtain ⟨j, hj⟩ := List.getElem?_of_mem hm
        rw [List.getElem?_take] at hj
        split at hj
        · rename_i hji
          have hi := (List.getElem?_eq_some_iff.1 hx).1
          have := (List.getElem?_inj (by omega) HN.out.2).1 (hj.trans hx.symm)
          omega
        · cases hj
      · have HRA8 : Hid (RgC w8 P L M N W H (fun t => !Lq.contains (t : Int)) labA DA) := hRA8.congr fun t => by simp
        have hTe : Turn2 L M wr w8 := ((Grew.turn (by repeat (first | exact Grew.refl _ | assumption | refine Grew.drew ?_ | refine Grew.alloc ?_ _ | refine Grew.setCell ?_ (by (try simp only [World.size_alloc, World.size_drew]); omega) _ | refine Grew.trans ?_ (by assumption))) L).two M).trans hT8
        have HRB8 : Hid (RgC w8 P' L' M' N W H _ _ _) := (HRB.out.grew HG.out).turn2 hTe (by constructor <;> omega) (by constructor <;> omega) (by constructor <;> omega)
        have HF8 : Hid (FirstAt w8 w3.heap.size Lq.length D N (fun t => Lq.contains (t : Int))) := HF.out.turn2 hTe (by omega) (by omega)
        have hG8 : Grew w1 w8 := hTe.grew ((hG12.trans hG23).trans HG.out) (by omega) (by omega)
        have hz8 : wr.heap.size ≤ w8.heap.size := hTe.size
        clear hRA8 hT8 hTe HO HLs hG HF HG hglt
        go_wp2_with fail
        obtain ⟨wo, rfl⟩ : ∃ wo : World, wo = wr := ⟨_, rfl⟩
        go_loopw [88] (fun i wr => ∃ (k : Nat) (labB : Nat → Int) (DB : DataW Unit), k ≤ N ∧ i = .int .i64 k ∧ RgC wr P' L' M' N W H (fun t => decide (k ≤ t)) labB DB ∧ Turn2 L' M' w8 wr) (fun i wr => N - (intOf i).toNat)
        case atStart => exact ⟨0, _, _, Nat.zero_le _, by simp, (HRB8.out.congr fun t => by simp).grew (by repeat (first | exact Grew.refl _ | assumption | refine Grew.drew ?_ | refine Grew.alloc ?_ _ | refine Grew.setCell ?_ (by (try simp only [World.size_alloc, World.size_drew]); omega) _ | refine Grew.trans ?_ (by assumption))), (Turn2.refl _ _ _).more (by repeat (first | exact Grew.refl _ | assumption | refine Grew.drew ?_ | refine Grew.alloc ?_ _ | refine Grew.setCell ?_ (by (try simp only [World.size_alloc, World.size_drew]); omega) _ | refine Grew.trans ?_ (by assumption)))⟩
        case round =>
          obtain ⟨k2, labB, DB, hk2, rfl, hRB, hT⟩ := hrel
          have HRk : Hid (RgC wr P' L' M' N W H (fun t => decide (k2 ≤ t)) labB DB) := hRB
          have HT : Hid (Turn2 L' M' w8 wr) := hT
          have hTz := hT.size
          have hGr : Grew w1 wr := hT.grew hG8 (by omega) (by omega)
          clear hRB hT
          by_cases hlk : k2 < N
          · go_wp2_with fail
            go_at_call 32
            refine (block_c1 P' L' M' N W H k2 wr.heap.size _ labB DB _ a b (HE.out _ ((hGw1.trans hGr).trans (by repeat (first | exact Grew.refl _ | assumption | refine Grew.drew ?_ | refine Grew.alloc ?_ _ | refine Grew.setCell ?_ (by (try simp only [World.size_alloc, World.size_drew]); omega) _ | refine Grew.trans ?_ (by assumption))))).range (HE.out _ ((hGw1.trans hGr).trans (by repeat (first | exact Grew.refl _ | assumption | refine Grew.drew ?_ | refine Grew.alloc ?_ _ | refine Grew.setCell ?_ (by (try simp only [World.size_alloc, World.size_drew]); omega) _ | refine Grew.trans ?_ (by assumption))))).blocked (HRk.out.grew (by repeat (first | exact Grew.refl _ | assumption | refine Grew.drew ?_ | refine Grew.alloc ?_ _ | refine Grew.setCell ?_ (by (try simp only [World.size_alloc, World.size_drew]); omega) _ | refine Grew.trans ?_ (by assumption)))) hW1 HNW.out hN1 hlk (one_list wr k2) (by omega) (by omega)).mono ?_
            rintro e w5 (⟨rfl, hf, _⟩ | ⟨lab2, D2, rfl, _, hR5, hT5⟩)
            · simp at hf
            · have HR5 : Hid (RgC w5 P' L' M' N W H (fun t => decide (k2 + 1 ≤ t)) lab2 D2) := hR5.congr fun t => by
                rw [Bool.eq_iff_iff]; simp; omega
              have HT5 : Hid (Turn2 L' M' w8 w5) := (HT.out.more (by repeat (first | exact Grew.refl _ | assumption | refine Grew.drew ?_ | refine Grew.alloc ?_ _ | refine Grew.setCell ?_ (by (try simp only [World.size_alloc, World.size_drew]); omega) _ | refine Grew.trans ?_ (by assumption)))).trans hT5
              clear hR5 hT5
              go_wp2_with fail
              go_roundw
              case rel => exact ⟨k2 + 1, lab2, D2, by omega, by go_num, HR5.out, HT5.out⟩
              case measure => simp [intOf]; omega
          · obtain rfl : k2 = N := by omega
            have hcz : Maps.size DB = 0 := by
              rw [HRk.out.z.sz]
              unfold many
              rw [passed_none fun j hj => by
                have := HRk.out.c.nf j hj (by simp; omega)
                simp; omega]
              rfl
            go_wp2_with fail
            (go_at_call 34; refine (rcount_any P' L' M' k2 W H k2 labB DB _ (HRk.out.r.grew (by repeat (first | exact Grew.refl _ | assumption | refine Grew.drew ?_ | refine Grew.alloc ?_ _ | refine Grew.setCell ?_ (by (try simp only [World.size_alloc, World.size_drew]); omega) _ | refine Grew.trans ?_ (by assumption)))) (HRk.out.s.grew (by repeat (first | exact Grew.refl _ | assumption | refine Grew.drew ?_ | refine Grew.alloc ?_ _ | refine Grew.setCell ?_ (by (try simp only [World.size_alloc, World.size_drew]); omega) _ | refine Grew.trans ?_ (by assumption))))).mono ?_; rintro e w6 ⟨rfl, hb⟩; obtain ⟨hc, hf⟩ := hb.facts; have hz := hb.size; (try simp only [World.size_alloc, World.size_drew] at hz))
            rw [hcz]
            have HR6 : Hid (RgC w6 P' L' M' k2 W H (fun t => decide (k2 ≤ t)) labB DB) := HRk.out.grew (by repeat (first | exact Grew.refl _ | assumption | refine Grew.drew ?_ | refine Grew.alloc ?_ _ | refine Grew.setCell ?_ (by (try simp only [World.size_alloc, World.size_drew]); omega) _ | refine Grew.trans ?_ (by assumption)))
            have HT6 : Hid (Turn2 L' M' w8 w6) := HT.out.more (by repeat (first | exact Grew.refl _ | assumption | refine Grew.drew ?_ | refine Grew.alloc ?_ _ | refine Grew.setCell ?_ (by (try simp only [World.size_alloc, World.size_drew]); omega) _ | refine Grew.trans ?_ (by assumption)))
            clear hcz hGr
            obtain ⟨R, hRN, eR⟩ := uint_rem x hN0
            go_wp2_with fail
            obtain ⟨wp, rfl⟩ : ∃ wp : World, wp = wr := ⟨_, rfl⟩
            go_loopw [101] (fun i wr => ∃ (k : Nat) (labB : Nat → Int) (DB : DataW Unit), k ≤ k2 ∧ i = .int .i64 k ∧ RgC wr P' L' M' k2 W H (fun t => !Lq.contains (t : Int) && decide ((t + (k2 - R)) % k2 < k)) labB DB ∧ Turn2 L' M' w8 wr) (fun i wr => k2 - (intOf i).toNat)
            case atStart => exact ⟨0, _, _, Nat.zero_le _, by simp, (HR6.out.congrN hW1.1 HNW.out fun t ht => by simp; omega).grew (by repeat (first | exact Grew.refl _ | assumption | refine Grew.drew ?_ | refine Grew.alloc ?_ _ | refine Grew.setCell ?_ (by (try simp only [World.size_alloc, World.size_drew]); omega) _ | refine Grew.trans ?_ (by assumption))), HT6.out.more (by repeat (first | exact Grew.refl _ | assumption | refine Grew.drew ?_ | refine Grew.alloc ?_ _ | refine Grew.setCell ?_ (by (try simp only [World.size_alloc, World.size_drew]); omega) _ | refine Grew.trans ?_ (by assumption)))⟩
            case round =>
              obtain ⟨k3, labC, DC, hk3, rfl, hRC, hT⟩ := hrel
              have HRk3 : Hid (RgC wr P' L' M' k2 W H (fun t => !Lq.contains (t : Int) && decide ((t + (k2 - R)) % k2 < k3)) labC DC) := hRC
              have HT3 : Hid (Turn2 L' M' w8 wr) := hT
              have hTz3 := hT.size
              have hGr : Grew w1 wr := hT.grew hG8 (by omega) (by omega)
              have HF3 : Hid (FirstAt wr w3.heap.size Lq.length D k2 (fun t => Lq.contains (t : Int))) := HF8.out.turn2 hT (by omega) (by omega)
              clear hRC hT
              by_cases hlk : k3 < k2
              · obtain ⟨T, hT⟩ : ∃ T, (k3 + R) % k2 = T := ⟨_, rfl⟩
                have hTN : T < k2 := by rw [← hT]; exact Nat.mod_lt _ hN0
                have hrot : (T + (k2 - R)) % k2 = k3 := by rw [← hT]; exact rot_mod hRN hlk
                have hother : ∀ t, t < k2 → t ≠ T → (t + (k2 - R)) % k2 ≠ k3 := fun t ht hne e => by
                  have := rot_back hRN ht
                  rw [e, hT] at this
                  exact hne this.symm
                have hT1 : ((k3 : Int) + (R : Int)).tmod (k2 : Int) = (T : Int) := by rw [Int.tmod_eq_emod_of_nonneg (by omega), ← hT]; push_cast; rfl
                have hlook := HF3.out.look hN1 hTN
                have HOT : Hid (∀ t, t < k2 → t ≠ T → (t + (k2 - R)) % k2 ≠ k3) := hother
                clear hother
                cases hcn : Lq.contains (T : Int)
                · rw [hcn] at hlook
                  go_wp2_with fail
                  go_at_call 35
                  refine (free_c1 P' L' M' k2 W H T wr.heap.size _ labC DC _ a s (HE.out _ ((hGw1.trans hGr).trans (by repeat (first | exact Grew.refl _ | assumption | refine Grew.drew ?_ | refine Grew.alloc ?_ _ | refine Grew.setCell ?_ (by (try simp only [World.size_alloc, World.size_drew]); omega) _ | refine Grew.trans ?_ (by assumption))))).range (HE.out _ ((hGw1.trans hGr).trans (by repeat (first | exact Grew.refl _ | assumption | refine Grew.drew ?_ | refine Grew.alloc ?_ _ | refine Grew.setCell ?_ (by (try simp only [World.size_alloc, World.size_drew]); omega) _ | refine Grew.trans ?_ (by assumption))))).state (HRk3.out.grew (by repeat (first | exact Grew.refl _ | assumption | refine Grew.drew ?_ | refine Grew.alloc ?_ _ | refine Grew.setCell ?_ (by (try simp only [World.size_alloc, World.size_drew]); omega) _ | refine Grew.trans ?_ (by assumption)))) hW1 HNW.out hN1 hTN (by simp [hrot]) (one_list wr T) (by omega) (by omega)).mono ?_
                  rintro e w5 ⟨lab2, D2, rfl, hR5, hT5⟩
                  have HR5 : Hid (RgC w5 P' L' M' k2 W H (fun t => !Lq.contains (t : Int) && decide ((t + (k2 - R)) % k2 < k3 + 1)) lab2 D2) := hR5.congrN hW1.1 HNW.out fun t ht => by
                    by_cases e : t = T
                    · subst e
                      have hcn' : ¬ (t : Int) ∈ Lq := by simpa using hcn
                      simp [hrot, hcn']
                    · have := HOT.out t ht e
                      rw [Bool.eq_iff_iff]; simp [e]
                      intro _; omega
                  have HT5 : Hid (Turn2 L' M' w8 w5) := (HT3.out.more (by repeat (first | exact Grew.refl _ | assumption | refine Grew.drew ?_ | refine Grew.alloc ?_ _ | refine Grew.setCell ?_ (by (try simp only [World.size_alloc, World.size_drew]); omega) _ | refine Grew.trans ?_ (by assumption)))).trans hT5
                  clear hR5 hT5
                  go_wp2_with fail
                  go_roundw
                  case rel => exact ⟨k3 + 1, lab2, D2, by omega, by go_num, HR5.out, HT5.out⟩
                  case measure => simp [intOf]; omega
                · rw [hcn] at hlook
                  have HR5 : Hid (RgC wr P' L' M' k2 W H (fun t => !Lq.contains (t : Int) && decide ((t + (k2 - R)) % k2 < k3 + 1)) labC DC) := HRk3.out.congrN hW1.1 HNW.out fun t ht => by
                    by_cases e : t = T
                    · subst e; simp at hcn; simp [hcn]
                    · have := HOT.out t ht e
                      rw [Bool.eq_iff_iff]; simp
                      intro _; omega
                  go_wp2_with fail
                  go_roundw
                  case rel => exact ⟨k3 + 1, labC, DC, by omega, by go_num, HR5.out, HT3.out⟩
                  case measure => simp [intOf]; omega
              · obtain rfl : k3 = k2 := by omega
                have hCC : Canon W k3 (fun t => !Lq.contains (t : Int)) labC := HRk3.out.c.congrN hW1.1 HNW.out fun t ht => by
                  have := Nat.mod_lt (t + (k3 - R)) hN0
                  simp [this]
                have HLL : Hid (∀ j, j < k3 → labA j = labC j) := fun j hj => HRA8.out.c.unique hCC hW1.1 HNW.out j hj
                have hsz : Maps.size DA = Maps.size DC := by
                  rw [HRA8.out.z.sz, HRk3.out.z.sz]
                  exact plen_congr fun j hj => by rw [HLL.out j hj]
                have HRAe : Hid (RgC wr P L M k3 W H (fun t => !Lq.contains (t : Int)) labA DA) := HRA8.out.turn2 HT3.out (by constructor <;> omega) (by constructor <;> omega) (by constructor <;> omega)
                have hGe : Grew w wr := hGw1.trans hGr
                clear hCC HRA8
                go_wp2_with fail
                (go_at_call 33; refine (labels_any P L M k3 W H labA _ (HRAe.out.r.grew (by repeat (first | exact Grew.refl _ | assumption | refine Grew.drew ?_ | refine Grew.alloc ?_ _ | refine Grew.setCell ?_ (by (try simp only [World.size_alloc, World.size_drew]); omega) _ | refine Grew.trans ?_ (by assumption)))) hN0 hN1).mono ?_; rintro e w11 ⟨⟨Da, Ka, rfl, hA0, hA1, hAc⟩, hb⟩; obtain ⟨hc, hf⟩ := hb.facts; have hz := hb.size; (try simp only [World.size_alloc, World.size_drew] at hz))
                have hG11 : Grew wr w11 := (by repeat (first | exact Grew.refl _ | assumption | refine Grew.drew ?_ | refine Grew.alloc ?_ _ | refine Grew.setCell ?_ (by (try simp only [World.size_alloc, World.size_drew]); omega) _ | refine Grew.trans ?_ (by assumption)))
                have HAc : Hid (IntsAt w11 (.slice (some ⟨Da, 0, none⟩) k3 Ka) ((List.range k3).map labA)) := labels_ints hA1 hAc
                clear hAc
                go_wp2_with fail
                (go_at_call 33; refine (labels_any P' L' M' k3 W H labC _ (HRk3.out.r.grew (hG11.trans (by repeat (first | exact Grew.refl _ | assumption | refine Grew.drew ?_ | refine Grew.alloc ?_ _ | refine Grew.setCell ?_ (by (try simp only [World.size_alloc, World.size_drew]); omega) _ | refine Grew.trans ?_ (by assumption))))) hN0 hN1).mono ?_; rintro e w12 ⟨⟨Db, Kb, rfl, hB0, hB1, hBc⟩, hb⟩; obtain ⟨hc, hf⟩ := hb.facts; have hz := hb.size; (try simp only [World.size_alloc, World.size_drew] at hz))
                have hG12' : Grew w11 w12 := (by repeat (first | exact Grew.refl _ | assumption | refine Grew.drew ?_ | refine Grew.alloc ?_ _ | refine Grew.setCell ?_ (by (try simp only [World.size_alloc, World.size_drew]); omega) _ | refine Grew.trans ?_ (by assumption)))
                have HBc : Hid (IntsAt w12 (.slice (some ⟨Db, 0, none⟩) k3 Kb) ((List.range k3).map labA)) := by
                  have := labels_ints (K := Kb) hB1 hBc
                  rw [show (List.range k3).map labA = (List.range k3).map labC from List.map_congr_left fun j hj => HLL.out j (by simpa using hj)]
                  exact this
                clear hBc
                go_wp2_with fail
                (go_at_call 14; refine (same_eq _ _ _ _ (HAc.out.grew (hG12'.trans (by repeat (first | exact Grew.refl _ | assumption | refine Grew.drew ?_ | refine Grew.alloc ?_ _ | refine Grew.setCell ?_ (by (try simp only [World.size_alloc, World.size_drew]); omega) _ | refine Grew.trans ?_ (by assumption))))) (HBc.out.grew (by repeat (first | exact Grew.refl _ | assumption | refine Grew.drew ?_ | refine Grew.alloc ?_ _ | refine Grew.setCell ?_ (by (try simp only [World.size_alloc, World.size_drew]); omega) _ | refine Grew.trans ?_ (by assumption)))) (by simp; omega)).mono ?_; rintro e w13 ⟨rfl, hb⟩; obtain ⟨hc, hf⟩ := hb.facts; have hz := hb.size; (try simp only [World.size_alloc, World.size_drew] at hz))
                have hG13 : Grew wr w13 := (hG11.trans hG12').trans (by repeat (first | exact Grew.refl _ | assumption | refine Grew.drew ?_ | refine Grew.alloc ?_ _ | refine Grew.setCell ?_ (by (try simp only [World.size_alloc, World.size_drew]); omega) _ | refine Grew.trans ?_ (by assumption)))
                go_wp2_with fail
                (go_at_call 34; refine (rcount_any P L M k3 W H k3 labA DA _ (HRAe.out.r.grew (hG13.trans (by repeat (first | exact Grew.refl _ | assumption | refine Grew.drew ?_ | refine Grew.alloc ?_ _ | refine Grew.setCell ?_ (by (try simp only [World.size_alloc, World.size_drew]); omega) _ | refine Grew.trans ?_ (by assumption))))) (HRAe.out.s.grew (hG13.trans (by repeat (first | exact Grew.refl _ | assumption | refine Grew.drew ?_ | refine Grew.alloc ?_ _ | refine Grew.setCell ?_ (by (try simp only [World.size_alloc, World.size_drew]); omega) _ | refine Grew.trans ?_ (by assumption)))))).mono ?_; rintro e w14 ⟨rfl, hb⟩; obtain ⟨hc, hf⟩ := hb.facts; have hz := hb.size; (try simp only [World.size_alloc, World.size_drew] at hz))
                have hG14 : Grew wr w14 := hG13.trans (by repeat (first | exact Grew.refl _ | assumption | refine Grew.drew ?_ | refine Grew.alloc ?_ _ | refine Grew.setCell ?_ (by (try simp only [World.size_alloc, World.size_drew]); omega) _ | refine Grew.trans ?_ (by assumption)))
                go_wp2_with fail
                (go_at_call 34; refine (rcount_any P' L' M' k3 W H k3 labC DC _ (HRk3.out.r.grew (hG14.trans (by repeat (first | exact Grew.refl _ | assumption | refine Grew.drew ?_ | refine Grew.alloc ?_ _ | refine Grew.setCell ?_ (by (try simp only [World.size_alloc, World.size_drew]); omega) _ | refine Grew.trans ?_ (by assumption))))) (HRk3.out.s.grew (hG14.trans (by repeat (first | exact Grew.refl _ | assumption | refine Grew.drew ?_ | refine Grew.alloc ?_ _ | refine Grew.setCell ?_ (by (try simp only [World.size_alloc, World.size_drew]); omega) _ | refine Grew.trans ?_ (by assumption)))))).mono ?_; rintro e w15 ⟨rfl, hb⟩; obtain ⟨hc, hf⟩ := hb.facts; have hz := hb.size; (try simp only [World.size_alloc, World.size_drew] at hz))
                have hG15 : Grew w w15 := hGe.trans (hG14.trans (by repeat (first | exact Grew.refl _ | assumption | refine Grew.drew ?_ | refine Grew.alloc ?_ _ | refine Grew.setCell ?_ (by (try simp only [World.size_alloc, World.size_drew]); omega) _ | refine Grew.trans ?_ (by assumption))))
                rw [← hsz]
                go_wp2_with fail
                go_ret
                exact ⟨by simp, hG15⟩
theorem regionBack_all (W H S X Y x : Int) (v : Option Addr) (n cap : Nat) (w : World) (a f b s : Addr) (hE : Sent w a f b s) (hI : IntsIn w v n cap) :
    Calls Tryd.prog 9 #[.agg #[.int .i64 W, .int .i64 H, .int .i64 S, .int .i64 X, .int .i64 Y], .slice v n cap, .int .i64 x] w fun e w' => e = .returned (.bool true) ∧ Grew w w' := by
  cases h : gridB W H S X Y
  · exact regionBack_early W H S X Y x v n cap w a f b s hE h
  · obtain ⟨_, ⟨g1, g2, g3, g4, g5, g6⟩, _⟩ := grid_facts h
    obtain ⟨W', rfl⟩ : ∃ W' : Nat, W = W' := ⟨W.toNat, by omega⟩
    obtain ⟨H', rfl⟩ : ∃ H' : Nat, H = H' := ⟨H.toNat, by omega⟩
    by_cases hn : n ≤ 100
    · exact regionBack_any W' H' S X Y x v n cap w a f b s hE hI h hn
    · exact regionBack_long W' H' S X Y x v n cap w a f b s hE h (by omega)
end Go.Proofs.YtbgbfljbjpbinaaDoor

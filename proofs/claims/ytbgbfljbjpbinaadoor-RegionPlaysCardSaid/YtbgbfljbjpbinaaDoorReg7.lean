/- What cut keeps; the walks of (*region.Regions).Labels and Block. Conditions: the region's cells, the list's cells, the sentinels' cells. -/
import Derived.Test.YtbgbfljbjpbinaaDoorReg6
namespace Go.Proofs.YtbgbfljbjpbinaaDoor
set_option linter.unusedSimpArgs false
set_option linter.unusedVariables false
open Go.RowKit Go.Maps

theorem ph1_range {W N i : Nat} {old : Int} {ns : List Int} {lab0 lab : Nat → Int} (h : Ph1 W N old ns lab0 i lab) (h0 : ∀ j, j < N → -1 ≤ lab0 j ∧ lab0 j < 2 * N) : ∀ j, j < N → -1 ≤ lab j ∧ lab j < 2 * N := by
  induction h with
  | start => exact h0
  | skip _ _ _ _ ih => exact ih
  | fill _ _ hk _ _ ih =>
    intro j hj
    dsimp only
    split
    · omega
    · exact ih j hj
theorem ph2_range {W N k : Nat} {lab1 lab : Nat → Int} {D1 D : DataW Unit} (h : Ph2 W N lab1 D1 k lab D) (h0 : ∀ j, j < N → -1 ≤ lab1 j ∧ lab1 j < 2 * N) : (∀ j, j < N → -1 ≤ lab j ∧ lab j < 2 * N) ∧ ∀ j, j < k → lab j < N := by
  induction h with
  | start => exact ⟨h0, fun j hj => by omega⟩
  | @skip k lab D _ hk hl ih =>
    refine ⟨ih.1, fun j hj => ?_⟩
    by_cases e : j = k
    · subst e; exact hl
    · exact ih.2 j (by omega)
  | @fill k lab D R _ hk _ hF ih =>
    refine ⟨fun j hj => ?_, fun j hj => ?_⟩ <;> dsimp only
    · split
      · omega
      · exact ih.1 j hj
    · by_cases e : R j = true
      · rw [if_pos e]; omega
      · rw [if_neg e]
        by_cases e2 : j = k
        · subst e2; exact absurd hF.r0 e
        · exact ih.2 j (by omega)

/-- One tile is cut out. -/
def CutStep (W N t : Nat) (lab : Nat → Int) (D : DataW Unit) (lab2 : Nat → Int) (D2 : DataW Unit) : Prop :=
  ∃ lab1, Ph1 W N (lab t) (nbr W N t) (fun j => if j = t then -1 else lab j) (nbr W N t).length lab1 ∧ Ph2 W N lab1 (D.del (.int .i64 (lab t))) N lab2 D2
/-- All labels are tiles, or none. -/
def LabOk (N : Nat) (lab : Nat → Int) : Prop := ∀ j, j < N → -1 ≤ lab j ∧ lab j < N
theorem CutStep.range {W N t : Nat} {lab lab2 : Nat → Int} {D D2 : DataW Unit} (h : CutStep W N t lab D lab2 D2) (h0 : LabOk N lab) : LabOk N lab2 := by
  obtain ⟨lab1, h1, h2⟩ := h
  have r1 := ph1_range h1 fun j hj => by
    have := h0 j hj
    split <;> omega
  obtain ⟨r2, r3⟩ := ph2_range h2 r1
  exact fun j hj => ⟨(r2 j hj).1, r3 j hj⟩
/-- The first tiles of a list are cut out, one behind the other. -/
inductive Cuts (W N : Nat) (L : List Int) (lab0 : Nat → Int) (D0 : DataW Unit) : Nat → (Nat → Int) → DataW Unit → Prop
  | start : Cuts W N L lab0 D0 0 lab0 D0
  | step {i t : Nat} {lab lab2 : Nat → Int} {D D2 : DataW Unit} : Cuts W N L lab0 D0 i lab D → L[i]? = some (t : Int) → t < N → CutStep W N t lab D lab2 D2 → Cuts W N L lab0 D0 (i + 1) lab2 D2
theorem Cuts.range {W N i : Nat} {L : List Int} {lab0 lab : Nat → Int} {D0 D : DataW Unit} (h : Cuts W N L lab0 D0 i lab D) (h0 : LabOk N lab0) : LabOk N lab := by
  induction h with
  | start => exact h0
  | step _ _ _ hs ih => exact hs.range ih

theorem labels_any (P L M N W H : Nat) (lab : Nat → Int) (w : World) (hR : RegAt w P L M N W H lab) (hN0 : 0 < N) (hN : N ≤ 1024) :
    Calls Tryd.prog 33 #[.pointer (some ⟨P, 0, none⟩)] w fun e w' => (∃ D K', e = .returned (.slice (some ⟨D, 0, none⟩) N K') ∧ w.heap.size ≤ D ∧ D < w'.heap.size ∧ ∀ k, k < N → w'.cell? ⟨D, k, none⟩ = some (.int .i64 (lab k))) ∧ Grew w w' := by
  have HR : Hid (RegAt w P L M N W H lab) := hR
  obtain ⟨K, c2⟩ := hR.r2
  clear hR
  go_enter Tryd.func33, Tryd.ntmps33
  go_wp2_with (go_at_call 64; refine (sclone_core L N K lab _ HR.out.ls hN0 hN HR.out.hL).mono ?_; rintro e w1 ⟨⟨D, K', rfl, hD0, hD1, hDc, hDf⟩, hb⟩; obtain ⟨hc, hf⟩ := hb.facts; have hz := hb.size; (try simp only [World.size_alloc, World.size_drew] at hz); (try (have hcq := fun o => hc (P) o (by (try simp only [World.size_alloc, World.size_drew]); omega))); (try (have hq : P < w1.heap.size := by omega)))
  go_ret
  exact ⟨⟨D, K', rfl, hD0, hD1, hDc⟩, (by repeat (first | exact Grew.refl _ | assumption | refine Grew.drew ?_ | refine Grew.alloc ?_ _ | refine Grew.setCell ?_ (by (try simp only [World.size_alloc, World.size_drew]); omega) _ | refine Grew.trans ?_ (by assumption)))⟩

set_option maxRecDepth 100000 in
set_option maxHeartbeats 8000000 in
theorem block_any (P L M N W H nn : Nat) (lab : Nat → Int) (D : DataW Unit) (bb off cap : Nat) (Ls : List Int) (n : Nat) (w : World) (a b : Addr) (hg : w.cell? ⟨1, 0, none⟩ = some (.iface 130 (.pointer (some a)))) (hbl : w.cell? ⟨7, 0, none⟩ = some (.iface 130 (.pointer (some b)))) (hR : RegAt w P L M N W H lab) (hS : SizesAt w M nn D) (hW : 1 ≤ W ∧ W ≤ 32) (hNW : N = W * H) (hN : N ≤ 1024) (hlab : LabOk N lab) (hL : ListAt w bb off cap Ls) (hn : n = Ls.length) (hn1 : n ≤ 100000) (hnn : nn + N * n ≤ 1000000) (hbb : bb ≠ L ∧ bb ≠ M) :
    Calls Tryd.prog 32 #[.pointer (some ⟨P, 0, none⟩), .slice (some ⟨bb, off, none⟩) n cap] w fun e w' =>
      (e = .returned (.iface 130 (.pointer (some a))) ∧ ¬ RngOk N Ls ∧ Grew w w') ∨
      (e = .returned (.iface 130 (.pointer (some b))) ∧ RngOk N Ls ∧ ¬ AskOk lab false Ls ∧ Grew w w') ∨
      (∃ lab2 D2, e = .returned .nilIface ∧ RngOk N Ls ∧ AskOk lab false Ls ∧ Cuts W N Ls lab D n lab2 D2 ∧ RegAt w' P L M N W H lab2 ∧ SizesAt w' M (nn + N * n) D2 ∧ Turn2 L M w w') := by
  have HL : Hid (ListAt w bb off cap Ls) := hL
  have HN : Hid (n = Ls.length) := hn
  have HR : Hid (RegAt w P L M N W H lab) := hR
  have HS : Hid (SizesAt w M nn D) := hS
  have HNW : Hid (N = W * H) := hNW
  have HLO : Hid (LabOk N lab) := hlab
  have hroom := hL.room
  have htop := hL.top
  have hlt := hL.lt
  have hltg := lt_of_cell hg
  have hltb := lt_of_cell hbl
  rw [← hn] at hroom
  clear hL hn hR hS hNW hlab
  unfold maxLen at htop
  go_enter Tryd.func32, Tryd.ntmps32
  go_wp2_with fail
  go_at_call 62
  refine (ask_any P L M N W H lab bb off cap Ls false (.iface 130 (.pointer (some b))) n _ a (((Grew.facts (W := w) (by repeat (first | exact Grew.refl _ | assumption | refine Grew.drew ?_ | refine Grew.alloc ?_ _ | refine Grew.setCell ?_ (by (try simp only [World.size_alloc, World.size_drew]); omega) _ | refine Grew.trans ?_ (by assumption)))).1 _ _ hltg).trans hg) (HR.out.grew (by repeat (first | exact Grew.refl _ | assumption | refine Grew.drew ?_ | refine Grew.alloc ?_ _ | refine Grew.setCell ?_ (by (try simp only [World.size_alloc, World.size_drew]); omega) _ | refine Grew.trans ?_ (by assumption)))) hN (HL.out.grew (by repeat (first | exact Grew.refl _ | assumption | refine Grew.drew ?_ | refine Grew.alloc ?_ _ | refine Grew.setCell ?_ (by (try simp only [World.size_alloc, World.size_drew]); omega) _ | refine Grew.trans ?_ (by assumption)))) HN.out).mono ?_
  rintro e w1 ⟨⟨rfl, h1⟩ | ⟨rfl, h1, h2⟩ | ⟨rfl, h1, h2⟩, hb⟩
  · have HX : Hid (¬ RngOk N Ls) := h1
    clear h1
    go_wp2_with fail
    go_ret
    exact .inl ⟨rfl, HX.out, (by repeat (first | exact Grew.refl _ | assumption | refine Grew.drew ?_ | refine Grew.alloc ?_ _ | refine Grew.setCell ?_ (by (try simp only [World.size_alloc, World.size_drew]); omega) _ | refine Grew.trans ?_ (by assumption)))⟩
  · have HX : Hid (RngOk N Ls ∧ ¬ AskOk lab false Ls) := ⟨h1, h2⟩
    clear h1 h2
    go_wp2_with fail
    go_ret
    exact .inr (.inl ⟨rfl, HX.out.1, HX.out.2, (by repeat (first | exact Grew.refl _ | assumption | refine Grew.drew ?_ | refine Grew.alloc ?_ _ | refine Grew.setCell ?_ (by (try simp only [World.size_alloc, World.size_drew]); omega) _ | refine Grew.trans ?_ (by assumption)))⟩)
  · have HX : Hid (RngOk N Ls ∧ AskOk lab false Ls) := ⟨h1, h2⟩
    have hG1 : Grew w w1 := (by repeat (first | exact Grew.refl _ | assumption | refine Grew.drew ?_ | refine Grew.alloc ?_ _ | refine Grew.setCell ?_ (by (try simp only [World.size_alloc, World.size_drew]); omega) _ | refine Grew.trans ?_ (by assumption)))
    have hz1 := hG1.size
    clear h1 h2
    go_wp2_with fail
    go_loopw [17] (fun i wr => ∃ (q : Nat) (lab2 : Nat → Int) (D2 : DataW Unit), q ≤ n ∧ i = .int .i64 q ∧ Cuts W N Ls lab D q lab2 D2 ∧ RegAt wr P L M N W H lab2 ∧ SizesAt wr M (nn + N * q) D2 ∧ Turn2 L M w1 wr) (fun i wr => n - (intOf i).toNat)
    case atStart => exact ⟨0, lab, D, Nat.zero_le _, by simp, .start, (HR.out.grew hG1).grew (by repeat (first | exact Grew.refl _ | assumption | refine Grew.drew ?_ | refine Grew.alloc ?_ _ | refine Grew.setCell ?_ (by (try simp only [World.size_alloc, World.size_drew]); omega) _ | refine Grew.trans ?_ (by assumption))), (HS.out.grew hG1).grew (by repeat (first | exact Grew.refl _ | assumption | refine Grew.drew ?_ | refine Grew.alloc ?_ _ | refine Grew.setCell ?_ (by (try simp only [World.size_alloc, World.size_drew]); omega) _ | refine Grew.trans ?_ (by assumption))), (Turn2.refl _ _ _).more (by repeat (first | exact Grew.refl _ | assumption | refine Grew.drew ?_ | refine Grew.alloc ?_ _ | refine Grew.setCell ?_ (by (try simp only [World.size_alloc, World.size_drew]); omega) _ | refine Grew.trans ?_ (by assumption)))⟩
    case round =>
      obtain ⟨q, lab2, D2, hq, rfl, hC, hRr, hSr, hT⟩ := hrel
      have HC : Hid (Cuts W N Ls lab D q lab2 D2) := hC
      have HRr : Hid (RegAt wr P L M N W H lab2) := hRr
      have HSr : Hid (SizesAt wr M (nn + N * q) D2) := hSr
      have HT : Hid (Turn2 L M w1 wr) := hT
      clear hC hRr hSr hT
      by_cases hlq : q < n
      · obtain ⟨x, hx⟩ : ∃ x, Ls[q]? = some x := ⟨Ls[q]'(by rw [← HN.out]; exact hlq), by simp⟩
        obtain ⟨x0, x1⟩ := HX.out.1 q x hx
        obtain ⟨t, rfl⟩ : ∃ t : Nat, x = t := ⟨x.toNat, by omega⟩
        have hxc : wr.cell? ⟨bb, off + q, none⟩ = some (.int .i64 t) := ((HT.out.facts.1 _ _ (by omega) hbb.1 hbb.2).trans (hG1.facts.1 _ _ hlt)).trans (HL.out.cs q _ hx)
        have HX2 : Hid (Ls[q]? = some (t : Int)) := hx
        have htN : t < N := by omega
        have hlr := HC.out.range HLO.out t htN
        have hm1 : N * (q + 1) ≤ N * n := Nat.mul_le_mul_left N hlq
        have hm2 : N * (q + 1) = N * q + N := by rw [Nat.mul_add, Nat.mul_one]
        have HM : Hid (nn + N * q + N = nn + N * (q + 1)) := by show _ = _; omega
        have hnq : nn + N * q ≤ 1000000 := by omega
        obtain ⟨nq, hnq2⟩ : ∃ nq, nq = nn + N * q := ⟨_, rfl⟩
        rw [← hnq2] at hnq HSr HM
        clear hx x0 x1 hm1 hm2 hnq2
        go_wp2_with fail
        go_at_call 63
        refine (cut_any P L M N W H t nq lab2 D2 _ (HRr.out.grew (by repeat (first | exact Grew.refl _ | assumption | refine Grew.drew ?_ | refine Grew.alloc ?_ _ | refine Grew.setCell ?_ (by (try simp only [World.size_alloc, World.size_drew]); omega) _ | refine Grew.trans ?_ (by assumption)))) (HSr.out.grew (by repeat (first | exact Grew.refl _ | assumption | refine Grew.drew ?_ | refine Grew.alloc ?_ _ | refine Grew.setCell ?_ (by (try simp only [World.size_alloc, World.size_drew]); omega) _ | refine Grew.trans ?_ (by assumption)))) hW HNW.out hN htN (by omega) hnq).mono ?_
        rintro e w5 ⟨⟨lab1, lab3, D3, rfl, hp1, hp2, hR5, hS5⟩, hT5⟩
        have HC5 : Hid (Cuts W N Ls lab D (q + 1) lab3 D3) := .step HC.out HX2.out htN ⟨lab1, hp1, hp2⟩
        have HR5 : Hid (RegAt w5 P L M N W H lab3) := hR5
        have HS5 : Hid (SizesAt w5 M (nn + N * (q + 1)) D3) := by rw [← HM.out]; exact hS5
        have HT5 : Hid (Turn2 L M w1 w5) := (HT.out.more (by repeat (first | exact Grew.refl _ | assumption | refine Grew.drew ?_ | refine Grew.alloc ?_ _ | refine Grew.setCell ?_ (by (try simp only [World.size_alloc, World.size_drew]); omega) _ | refine Grew.trans ?_ (by assumption)))).trans hT5
        clear hp1 hp2 hR5 hS5 hT5
        go_wp2_with fail
        go_roundw
        case rel => exact ⟨q + 1, lab3, D3, by omega, by go_num, HC5.out, HR5.out, HS5.out, HT5.out⟩
        case measure => simp [intOf]; omega
      · obtain rfl : q = n := by omega
        have HTw : Hid (Turn2 L M w wr) := ((hG1.turn L).two M).trans HT.out
        go_wp2_with fail
        go_ret
        exact .inr (.inr ⟨lab2, D2, rfl, HX.out.1, HX.out.2, HC.out, HRr.out, HSr.out, HTw.out⟩)
end Go.Proofs.YtbgbfljbjpbinaaDoor

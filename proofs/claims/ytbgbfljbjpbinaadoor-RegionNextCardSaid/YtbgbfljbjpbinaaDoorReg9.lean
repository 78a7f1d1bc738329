/- What join keeps; the walk of (*region.Regions).Free, and of Label. Conditions: the region's cells, the list's cells, the sentinels' cells. -/
import Derived.Test.YtbgbfljbjpbinaaDoorReg8
namespace Go.Proofs.YtbgbfljbjpbinaaDoor
set_option linter.unusedSimpArgs false
set_option linter.unusedVariables false
open Go.RowKit Go.Maps

/-- One tile is freed. -/
def JoinStep (W N t : Nat) (lab : Nat → Int) (D : DataW Unit) (lab2 : Nat → Int) (D2 : DataW Unit) : Prop :=
  ∃ m s D1, Lst (nbr W N t) lab t (nbr W N t).length m ∧ Sz N (nbr W N t) t (fun j => if j = t then (t : Int) else lab j) D (nbr W N t).length s D1 ∧ D2 = D1.put (.int .i64 m) (.lit (.int .i64 s)) ∧ Jn W N m (nbr W N t ++ [(t : Int)]) (fun j => if j = t then t else lab j) (nbr W N t ++ [(t : Int)]).length lab2
theorem jn_range {W N i : Nat} {m : Int} {ns : List Int} {lab0 lab : Nat → Int} (h : Jn W N m ns lab0 i lab) (hm : 0 ≤ m ∧ m < N) (h0 : LabOk N lab0) : LabOk N lab := by
  induction h with
  | start => exact h0
  | skip _ _ _ _ ih => exact ih
  | fill _ _ _ _ _ _ ih =>
    intro j hj
    dsimp only
    split
    · omega
    · exact ih j hj
theorem JoinStep.range {W H N t : Nat} {lab lab2 : Nat → Int} {D D2 : DataW Unit} (h : JoinStep W N t lab D lab2 D2) (hW : 1 ≤ W) (hN : N = W * H) (ht : t < N) (h0 : LabOk N lab) : LabOk N lab2 := by
  obtain ⟨m, s, D1, h1, _, _, h2⟩ := h
  refine jn_range h2 (h1.range hW hN ht h0) fun j hj => ?_
  have := h0 j hj
  split <;> omega
/-- The first tiles of a list are freed, one behind the other. -/
inductive Joins (W N : Nat) (L : List Int) (lab0 : Nat → Int) (D0 : DataW Unit) : Nat → (Nat → Int) → DataW Unit → Prop
  | start : Joins W N L lab0 D0 0 lab0 D0
  | step {i t : Nat} {lab lab2 : Nat → Int} {D D2 : DataW Unit} : Joins W N L lab0 D0 i lab D → L[i]? = some (t : Int) → t < N → JoinStep W N t lab D lab2 D2 → Joins W N L lab0 D0 (i + 1) lab2 D2
theorem Joins.range {W H N i : Nat} {L : List Int} {lab0 lab : Nat → Int} {D0 D : DataW Unit} (h : Joins W N L lab0 D0 i lab D) (hW : 1 ≤ W) (hN : N = W * H) (h0 : LabOk N lab0) : LabOk N lab := by
  induction h with
  | start => exact h0
  | step _ _ ht hs ih => exact hs.range hW hN ht ih

set_option maxRecDepth 100000 in
set_option maxHeartbeats 8000000 in
theorem free_told (P L M N W H nn : Nat) (lab : Nat → Int) (D : DataW Unit) (bb off cap : Nat) (Ls : List Int) (n : Nat) (w : World) (a b : Addr) (hg : w.cell? ⟨1, 0, none⟩ = some (.iface 130 (.pointer (some a)))) (hbl : w.cell? ⟨6, 0, none⟩ = some (.iface 130 (.pointer (some b)))) (hR : RegAt w P L M N W H lab) (hS : SizesAt w M nn D) (hW : 1 ≤ W ∧ W ≤ 32) (hNW : N = W * H) (hN : N ≤ 1024) (hlab : LabOk N lab) (hL : ListAt w bb off cap Ls) (hn : n = Ls.length) (hn1 : n ≤ 100000) (hnn : nn + n ≤ 1000000) (hbb : bb ≠ L ∧ bb ≠ M) :
    Calls Tryd.prog 35 #[.pointer (some ⟨P, 0, none⟩), .slice (some ⟨bb, off, none⟩) n cap] w fun e w' =>
      (e = .returned (.iface 130 (.pointer (some a))) ∧ ¬ RngOk N Ls ∧ Grew w w') ∨
      (e = .returned (.iface 130 (.pointer (some b))) ∧ RngOk N Ls ∧ ¬ AskOk lab true Ls ∧ Grew w w') ∨
      (∃ lab2 D2, e = .returned .nilIface ∧ RngOk N Ls ∧ AskOk lab true Ls ∧ Joins W N Ls lab D n lab2 D2 ∧ RegAt w' P L M N W H lab2 ∧ SizesAt w' M (nn + n) D2 ∧ Turn2 L M w w') := by
  have HL : Hid (ListAt w bb off cap Ls) := hL
  have HN : Hid (n = Ls.length) := hn
  have HR : Hid (RegAt w P L M N W H lab) := hR
  have HS : Hid (SizesAt w M nn D) := hS
  have HNW : Hid (N = W * H) := hNW
  have HLO : Hid (LabOk N lab) := hlab
  have hroom := hL.room
  have htop := hL.top
  have hlt := hL.lt
  have hltg := lt_of_cell hg
  have hltb := lt_of_cell hbl
  rw [← hn] at hroom
  clear hL hn hR hS hNW hlab
  unfold maxLen at htop
  go_enter Tryd.func35, Tryd.ntmps35
  go_wp2_with fail
  go_at_call 62
  refine (ask_any P L M N W H lab bb off cap Ls true (.iface 130 (.pointer (some b))) n _ a (((Grew.facts (W := w) (by repeat (first | exact Grew.refl _ | assumption | refine Grew.drew ?_ | refine Grew.alloc ?_ _ | refine Grew.setCell ?_ (by (try simp only [World.size_alloc, World.size_drew]); omega) _ | refine Grew.trans ?_ (by assumption)))).1 _ _ hltg).trans hg) (HR.out.grew (by repeat (first | exact Grew.refl _ | assumption | refine Grew.drew ?_ | refine Grew.alloc ?_ _ | refine Grew.setCell ?_ (by (try simp only [World.size_alloc, World.size_drew]); omega) _ | refine Grew.trans ?_ (by assumption)))) hN (HL.out.grew (by repeat (first | exact Grew.refl _ | assumption | refine Grew.drew ?_ | refine Grew.alloc ?_ _ | refine Grew.setCell ?_ (by (try simp only [World.size_alloc, World.size_drew]); omega) _ | refine Grew.trans ?_ (by assumption)))) HN.out).mono ?_
  rintro e w1 ⟨⟨rfl, h1⟩ | ⟨rfl, h1, h2⟩ | ⟨rfl, h1, h2⟩, hb⟩
  · have HX : Hid (¬ RngOk N Ls) := h1
    clear h1
    go_wp2_with fail
    go_ret
    exact .inl ⟨rfl, HX.out, (by repeat (first | exact Grew.refl _ | assumption | refine Grew.drew ?_ | refine Grew.alloc ?_ _ | refine Grew.setCell ?_ (by (try simp only [World.size_alloc, World.size_drew]); omega) _ | refine Grew.trans ?_ (by assumption)))⟩
  · have HX : Hid (RngOk N Ls ∧ ¬ AskOk lab true Ls) := ⟨h1, h2⟩
    clear h1 h2
    go_wp2_with fail
    go_ret
    exact .inr (.inl ⟨rfl, HX.out.1, HX.out.2, (by repeat (first | exact Grew.refl _ | assumption | refine Grew.drew ?_ | refine Grew.alloc ?_ _ | refine Grew.setCell ?_ (by (try simp only [World.size_alloc, World.size_drew]); omega) _ | refine Grew.trans ?_ (by assumption)))⟩)
  · have HX : Hid (RngOk N Ls ∧ AskOk lab true Ls) := ⟨h1, h2⟩
    have hG1 : Grew w w1 := (by repeat (first | exact Grew.refl _ | assumption | refine Grew.drew ?_ | refine Grew.alloc ?_ _ | refine Grew.setCell ?_ (by (try simp only [World.size_alloc, World.size_drew]); omega) _ | refine Grew.trans ?_ (by assumption)))
    have hz1 := hG1.size
    clear h1 h2
    go_wp2_with fail
    go_loopw [17] (fun i wr => ∃ (q : Nat) (lab2 : Nat → Int) (D2 : DataW Unit), q ≤ n ∧ i = .int .i64 q ∧ Joins W N Ls lab D q lab2 D2 ∧ RegAt wr P L M N W H lab2 ∧ SizesAt wr M (nn + q) D2 ∧ Turn2 L M w1 wr) (fun i wr => n - (intOf i).toNat)
    case atStart => exact ⟨0, lab, D, Nat.zero_le _, by simp, .start, (HR.out.grew hG1).grew (by repeat (first | exact Grew.refl _ | assumption | refine Grew.drew ?_ | refine Grew.alloc ?_ _ | refine Grew.setCell ?_ (by (try simp only [World.size_alloc, World.size_drew]); omega) _ | refine Grew.trans ?_ (by assumption))), (HS.out.grew hG1).grew (by repeat (first | exact Grew.refl _ | assumption | refine Grew.drew ?_ | refine Grew.alloc ?_ _ | refine Grew.setCell ?_ (by (try simp only [World.size_alloc, World.size_drew]); omega) _ | refine Grew.trans ?_ (by assumption))), (Turn2.refl _ _ _).more (by repeat (first | exact Grew.refl _ | assumption | refine Grew.drew ?_ | refine Grew.alloc ?_ _ | refine Grew.setCell ?_ (by (try simp only [World.size_alloc, World.size_drew]); omega) _ | refine Grew.trans ?_ (by assumption)))⟩
    case round =>
      obtain ⟨q, lab2, D2, hq, rfl, hC, hRr, hSr, hT⟩ := hrel
      have HC : Hid (Joins W N Ls lab D q lab2 D2) := hC
      have HRr : Hid (RegAt wr P L M N W H lab2) := hRr
      have HSr : Hid (SizesAt wr M (nn + q) D2) := hSr
      have HT : Hid (Turn2 L M w1 wr) := hT
      clear hC hRr hSr hT
      by_cases hlq : q < n
      · obtain ⟨x, hx⟩ : ∃ x, Ls[q]? = some x := ⟨Ls[q]'(by rw [← HN.out]; exact hlq), by simp⟩
        obtain ⟨x0, x1⟩ := HX.out.1 q x hx
        obtain ⟨t, rfl⟩ : ∃ t : Nat, x = t := ⟨x.toNat, by omega⟩
        have hxc : wr.cell? ⟨bb, off + q, none⟩ = some (.int .i64 t) := ((HT.out.facts.1 _ _ (by omega) hbb.1 hbb.2).trans (hG1.facts.1 _ _ hlt)).trans (HL.out.cs q _ hx)
        have HX2 : Hid (Ls[q]? = some (t : Int)) := hx
        have htN : t < N := by omega
        have hlr := HC.out.range hW.1 HNW.out HLO.out
        have HM : Hid (nn + q + 1 = nn + (q + 1)) := by show _ = _; omega
        have hnq : nn + q ≤ 1000000 := by omega
        obtain ⟨nq, hnq2⟩ : ∃ nq, nq = nn + q := ⟨_, rfl⟩
        rw [← hnq2] at hnq HSr HM
        clear hx x0 x1 hnq2
        go_wp2_with fail
        go_at_call 65
        refine (join_told P L M N W H t nq lab2 D2 _ (HRr.out.grew (by repeat (first | exact Grew.refl _ | assumption | refine Grew.drew ?_ | refine Grew.alloc ?_ _ | refine Grew.setCell ?_ (by (try simp only [World.size_alloc, World.size_drew]); omega) _ | refine Grew.trans ?_ (by assumption)))) (HSr.out.grew (by repeat (first | exact Grew.refl _ | assumption | refine Grew.drew ?_ | refine Grew.alloc ?_ _ | refine Grew.setCell ?_ (by (try simp only [World.size_alloc, World.size_drew]); omega) _ | refine Grew.trans ?_ (by assumption)))) hW HNW.out hN htN hlr hnq).mono ?_
        rintro e w5 ⟨⟨m5, s5, lab3, D3, rfl, hp1, hps, hp2, hR5, hS5⟩, hT5⟩
        have HC5 : Hid (Joins W N Ls lab D (q + 1) lab3 _) := .step HC.out HX2.out htN ⟨m5, s5, D3, hp1, hps, rfl, hp2⟩
        have HR5 : Hid (RegAt w5 P L M N W H lab3) := hR5
        have HS5 : Hid (SizesAt w5 M (nn + (q + 1)) (D3.put (.int .i64 m5) (.lit (.int .i64 s5)))) := by rw [← HM.out]; exact hS5
        have HT5 : Hid (Turn2 L M w1 w5) := (HT.out.more (by repeat (first | exact Grew.refl _ | assumption | refine Grew.drew ?_ | refine Grew.alloc ?_ _ | refine Grew.setCell ?_ (by (try simp only [World.size_alloc, World.size_drew]); omega) _ | refine Grew.trans ?_ (by assumption)))).trans hT5
        clear hp1 hps hp2 hR5 hS5 hT5
        go_wp2_with fail
        go_roundw
        case rel => exact ⟨q + 1, lab3, _, by omega, by go_num, HC5.out, HR5.out, HS5.out, HT5.out⟩
        case measure => simp [intOf]; omega
      · obtain rfl : q = n := by omega
        have HTw : Hid (Turn2 L M w wr) := ((hG1.turn L).two M).trans HT.out
        go_wp2_with fail
        go_ret
        exact .inr (.inr ⟨lab2, D2, rfl, HX.out.1, HX.out.2, HC.out, HRr.out, HSr.out, HTw.out⟩)

theorem label_in (P L M N W H t : Nat) (lab : Nat → Int) (w : World) (hR : RegAt w P L M N W H lab) (ht : t < N) :
    Calls Tryd.prog 52 #[.pointer (some ⟨P, 0, none⟩), .int .i64 t] w fun e w' => e = .returned (.tuple #[.int .i64 (lab t), .nilIface]) ∧ Grew w w' := by
  obtain ⟨K, c2⟩ := hR.r2
  have hc := hR.ls t ht
  clear hR
  go_enter Tryd.func52, Tryd.ntmps52
  go_wp2_with fail
  exact bodyPost_ret (v := .tuple #[.int .i64 (lab t), .nilIface]) (by simp [results, Tryd.results52, go_sem, *]) rfl ⟨rfl, (by repeat (first | exact Grew.refl _ | assumption | refine Grew.drew ?_ | refine Grew.alloc ?_ _ | refine Grew.setCell ?_ (by (try simp only [World.size_alloc, World.size_drew]); omega) _ | refine Grew.trans ?_ (by assumption)))⟩
end Go.Proofs.YtbgbfljbjpbinaaDoor

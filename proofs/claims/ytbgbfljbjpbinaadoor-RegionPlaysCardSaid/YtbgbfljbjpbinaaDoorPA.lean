/- What Free, cut and join do, and the plain laws of labels: each free tile bears its least tile. Conditions: the cells that each contract names. -/
import Derived.Test.YtbgbfljbjpbinaaDoorReg8
namespace Go.Proofs.YtbgbfljbjpbinaaDoor
set_option linter.unusedSimpArgs false
set_option linter.unusedVariables false
open Go.RowKit Go.Maps

/-- One tile is freed. -/
def JoinStep (W N t : Nat) (lab : Nat → Int) (D : DataW Unit) (lab2 : Nat → Int) (D2 : DataW Unit) : Prop :=
  ∃ m s D1, Lst (nbr W N t) lab t (nbr W N t).length m ∧ Sz N (nbr W N t) t (fun j => if j = t then (t : Int) else lab j) D (nbr W N t).length s D1 ∧ D2 = D1.put (.int .i64 m) (.lit (.int .i64 s)) ∧ Jn W N m (nbr W N t ++ [(t : Int)]) (fun j => if j = t then t else lab j) (nbr W N t ++ [(t : Int)]).length lab2
theorem jn_range {W N i : Nat} {m : Int} {ns : List Int} {lab0 lab : Nat → Int} (h : Jn W N m ns lab0 i lab) (hm : 0 ≤ m ∧ m < N) (h0 : LabOk N lab0) : LabOk N lab := by
  induction h with
  | start => exact h0
  | skip _ _ _ _ ih => exact ih
  | fill _ _ _ _ _ _ ih =>
    intro j hj
    dsimp only
    split
    · omega
    · exact ih j hj
theorem JoinStep.range {W H N t : Nat} {lab lab2 : Nat → Int} {D D2 : DataW Unit} (h : JoinStep W N t lab D lab2 D2) (hW : 1 ≤ W) (hN : N = W * H) (ht : t < N) (h0 : LabOk N lab) : LabOk N lab2 := by
  obtain ⟨m, s, D1, h1, _, _, h2⟩ := h
  refine jn_range h2 (h1.range hW hN ht h0) fun j hj => ?_
  have := h0 j hj
  split <;> omega
/-- The first tiles of a list are freed, one behind the other. -/
inductive Joins (W N : Nat) (L : List Int) (lab0 : Nat → Int) (D0 : DataW Unit) : Nat → (Nat → Int) → DataW Unit → Prop
  | start : Joins W N L lab0 D0 0 lab0 D0
  | step {i t : Nat} {lab lab2 : Nat → Int} {D D2 : DataW Unit} : Joins W N L lab0 D0 i lab D → L[i]? = some (t : Int) → t < N → JoinStep W N t lab D lab2 D2 → Joins W N L lab0 D0 (i + 1) lab2 D2
theorem Joins.range {W H N i : Nat} {L : List Int} {lab0 lab : Nat → Int} {D0 D : DataW Unit} (h : Joins W N L lab0 D0 i lab D) (hW : 1 ≤ W) (hN : N = W * H) (h0 : LabOk N lab0) : LabOk N lab := by
  induction h with
  | start => exact h0
  | step _ _ ht hs ih => exact hs.range hW hN ht ih

set_option maxRecDepth 100000 in
set_option maxHeartbeats 8000000 in
theorem free_told (P L M N W H nn : Nat) (lab : Nat → Int) (D : DataW Unit) (bb off cap : Nat) (Ls : List Int) (n : Nat) (w : World) (a b : Addr) (hg : w.cell? ⟨1, 0, none⟩ = some (.iface 130 (.pointer (some a)))) (hbl : w.cell? ⟨6, 0, none⟩ = some (.iface 130 (.pointer (some b)))) (hR : RegAt w P L M N W H lab) (hS : SizesAt w M nn D) (hW : 1 ≤ W ∧ W ≤ 32) (hNW : N = W * H) (hN : N ≤ 1024) (hlab : LabOk N lab) (hL : ListAt w bb off cap Ls) (hn : n = Ls.length) (hn1 : n ≤ 100000) (hnn : nn + n ≤ 1000000) (hbb : bb ≠ L ∧ bb ≠ M) :
    Calls Tryd.prog 35 #[.pointer (some ⟨P, 0, none⟩), .slice (some ⟨bb, off, none⟩) n cap] w fun e w' =>
      (e = .returned (.iface 130 (.pointer (some a))) ∧ ¬ RngOk N Ls ∧ Grew w w') ∨
      (e = .returned (.iface 130 (.pointer (some b))) ∧ RngOk N Ls ∧ ¬ AskOk lab true Ls ∧ Grew w w') ∨
      (∃ lab2 D2, e = .returned .nilIface ∧ RngOk N Ls ∧ AskOk lab true Ls ∧ Joins W N Ls lab D n lab2 D2 ∧ RegAt w' P L M N W H lab2 ∧ SizesAt w' M (nn + n) D2 ∧ Turn2 L M w w') := by
  have HL : Hid (ListAt w bb off cap Ls) := hL
  have HN : Hid (n = Ls.length) := hn
  have HR : Hid (RegAt w P L M N W H lab) := hR
  have HS : Hid (SizesAt w M nn D) := hS
  have HNW : Hid (N = W * H) := hNW
  have HLO : Hid (LabOk N lab) := hlab
  have hroom := hL.room
  have htop := hL.top
  have hlt := hL.lt
  have hltg := lt_of_cell hg
  have hltb := lt_of_cell hbl
  rw [← hn] at hroom
  clear hL hn hR hS hNW hlab
  unfold maxLen at htop
  go_enter Tryd.func35, Tryd.ntmps35
  go_wp2_with fail
  go_at_call 62
  refine (ask_any P L M N W H lab bb off cap Ls true (.iface 130 (.pointer (some b))) n _ a (((Grew.facts (W := w) (by repeat (first | exact Grew.refl _ | assumption | refine Grew.drew ?_ | refine Grew.alloc ?_ _ | refine Grew.setCell ?_ (by (try simp only [World.size_alloc, World.size_drew]); omega) _ | refine Grew.trans ?_ (by assumption)))).1 _ _ hltg).trans hg) (HR.out.grew (by repeat (first | exact Grew.refl _ | assumption | refine Grew.drew ?_ | refine Grew.alloc ?_ _ | refine Grew.setCell ?_ (by (try simp only [World.size_alloc, World.size_drew]); omega) _ | refine Grew.trans ?_ (by assumption)))) hN (HL.out.grew (by repeat (first | exact Grew.refl _ | assumption | refine Grew.drew ?_ | refine Grew.alloc ?_ _ | refine Grew.setCell ?_ (by (try simp only [World.size_alloc, World.size_drew]); omega) _ | refine Grew.trans ?_ (by assumption)))) HN.out).mono ?_
  rintro e w1 ⟨⟨rfl, h1⟩ | ⟨rfl, h1, h2⟩ | ⟨rfl, h1, h2⟩, hb⟩
  · have HX : Hid (¬ RngOk N Ls) := h1
    clear h1
    go_wp2_with fail
    go_ret
    exact .inl ⟨rfl, HX.out, (by repeat (first | exact Grew.refl _ | assumption | refine Grew.drew ?_ | refine Grew.alloc ?_ _ | refine Grew.setCell ?_ (by (try simp only [World.size_alloc, World.size_drew]); omega) _ | refine Grew.trans ?_ (by assumption)))⟩
  · have HX : Hid (RngOk N Ls ∧ ¬ AskOk lab true Ls) := ⟨h1, h2⟩
    clear h1 h2
    go_wp2_with fail
    go_ret
    exact .inr (.inl ⟨rfl, HX.out.1, HX.out.2, (by repeat (first | exact Grew.refl _ | assumption | refine Grew.drew ?_ | refine Grew.alloc ?_ _ | refine Grew.setCell ?_ (by (try simp only [World.size_alloc, World.size_drew]); omega) _ | refine Grew.trans ?_ (by assumption)))⟩)
  · have HX : Hid (RngOk N Ls ∧ AskOk lab true Ls) := ⟨h1, h2⟩
    have hG1 : Grew w w1 := (by repeat (first | exact Grew.refl _ | assumption | refine Grew.drew ?_ | refine Grew.alloc ?_ _ | refine Grew.setCell ?_ (by (try simp only [World.size_alloc, World.size_drew]); omega) _ | refine Grew.trans ?_ (by assumption)))
    have hz1 := hG1.size
    clear h1 h2
    go_wp2_with fail
    go_loopw [17] (fun i wr => ∃ (q : Nat) (lab2 : Nat → Int) (D2 : DataW Unit), q ≤ n ∧ i = .int .i64 q ∧ Joins W N Ls lab D q lab2 D2 ∧ RegAt wr P L M N W H lab2 ∧ SizesAt wr M (nn + q) D2 ∧ Turn2 L M w1 wr) (fun i wr => n - (intOf i).toNat)
    case atStart => exact ⟨0, lab, D, Nat.zero_le _, by simp, .start, (HR.out.grew hG1).grew (by repeat (first | exact Grew.refl _ | assumption | refine Grew.drew ?_ | refine Grew.alloc ?_ _ | refine Grew.setCell ?_ (by (try simp only [World.size_alloc, World.size_drew]); omega) _ | refine Grew.trans ?_ (by assumption))), (HS.out.grew hG1).grew (by repeat (first | exact Grew.refl _ | assumption | refine Grew.drew ?_ | refine Grew.alloc ?_ _ | refine Grew.setCell ?_ (by (try simp only [World.size_alloc, World.size_drew]); omega) _ | refine Grew.trans ?_ (by assumption))), (Turn2.refl _ _ _).more (by repeat (first | exact Grew.refl _ | assumption | refine Grew.drew ?_ | refine Grew.alloc ?_ _ | refine Grew.setCell ?_ (by (try simp only [World.size_alloc, World.size_drew]); omega) _ | refine Grew.trans ?_ (by assumption)))⟩
    case round =>
      obtain ⟨q, lab2, D2, hq, rfl, hC, hRr, hSr, hT⟩ := hrel
      have HC : Hid (Joins W N Ls lab D q lab2 D2) := hC
      have HRr : Hid (RegAt wr P L M N W H lab2) := hRr
      have HSr : Hid (SizesAt wr M (nn + q) D2) := hSr
      have HT : Hid (Turn2 L M w1 wr) := hT
      clear hC hRr hSr hT
      by_cases hlq : q < n
      · obtain ⟨x, hx⟩ : ∃ x, Ls[q]? = some x := ⟨Ls[q]'(by rw [← HN.out]; exact hlq), by simp⟩
        obtain ⟨x0, x1⟩ := HX.out.1 q x hx
        obtain ⟨t, rfl⟩ : ∃ t : Nat, x = t := ⟨x.toNat, by omega⟩
        have hxc : wr.cell? ⟨bb, off + q, none⟩ = some (.int .i64 t) := ((HT.out.facts.1 _ _ (by omega) hbb.1 hbb.2).trans (hG1.facts.1 _ _ hlt)).trans (HL.out.cs q _ hx)
        have HX2 : Hid (Ls[q]? = some (t : Int)) := hx
        have htN : t < N := by omega
        have hlr := HC.out.range hW.1 HNW.out HLO.out
        have HM : Hid (nn + q + 1 = nn + (q + 1)) := by show _ = _; omega
        have hnq : nn + q ≤ 1000000 := by omega
        obtain ⟨nq, hnq2⟩ : ∃ nq, nq = nn + q := ⟨_, rfl⟩
        rw [← hnq2] at hnq HSr HM
        clear hx x0 x1 hnq2
        go_wp2_with fail
        go_at_call 65
        refine (join_told P L M N W H t nq lab2 D2 _ (HRr.out.grew (by repeat (first | exact Grew.refl _ | assumption | refine Grew.drew ?_ | refine Grew.alloc ?_ _ | refine Grew.setCell ?_ (by (try simp only [World.size_alloc, World.size_drew]); omega) _ | refine Grew.trans ?_ (by assumption)))) (HSr.out.grew (by repeat (first | exact Grew.refl _ | assumption | refine Grew.drew ?_ | refine Grew.alloc ?_ _ | refine Grew.setCell ?_ (by (try simp only [World.size_alloc, World.size_drew]); omega) _ | refine Grew.trans ?_ (by assumption)))) hW HNW.out hN htN hlr hnq).mono ?_
        rintro e w5 ⟨⟨m5, s5, lab3, D3, rfl, hp1, hps, hp2, hR5, hS5⟩, hT5⟩
        have HC5 : Hid (Joins W N Ls lab D (q + 1) lab3 _) := .step HC.out HX2.out htN ⟨m5, s5, D3, hp1, hps, rfl, hp2⟩
        have HR5 : Hid (RegAt w5 P L M N W H lab3) := hR5
        have HS5 : Hid (SizesAt w5 M (nn + (q + 1)) (D3.put (.int .i64 m5) (.lit (.int .i64 s5)))) := by rw [← HM.out]; exact hS5
        have HT5 : Hid (Turn2 L M w1 w5) := (HT.out.more (by repeat (first | exact Grew.refl _ | assumption | refine Grew.drew ?_ | refine Grew.alloc ?_ _ | refine Grew.setCell ?_ (by (try simp only [World.size_alloc, World.size_drew]); omega) _ | refine Grew.trans ?_ (by assumption)))).trans hT5
        clear hp1 hps hp2 hR5 hS5 hT5
        go_wp2_with fail
        go_roundw
        case rel => exact ⟨q + 1, lab3, _, by omega, by go_num, HC5.out, HR5.out, HS5.out, HT5.out⟩
        case measure => simp [intOf]; omega
      · obtain rfl : q = n := by omega
        have HTw : Hid (Turn2 L M w wr) := ((hG1.turn L).two M).trans HT.out
        go_wp2_with fail
        go_ret
        exact .inr (.inr ⟨lab2, D2, rfl, HX.out.1, HX.out.2, HC.out, HRr.out, HSr.out, HTw.out⟩)

theorem label_in (P L M N W H t : Nat) (lab : Nat → Int) (w : World) (hR : RegAt w P L M N W H lab) (ht : t < N) :
    Calls Tryd.prog 52 #[.pointer (some ⟨P, 0, none⟩), .int .i64 t] w fun e w' => e = .returned (.tuple #[.int .i64 (lab t), .nilIface]) ∧ Grew w w' := by
  obtain ⟨K, c2⟩ := hR.r2
  have hc := hR.ls t ht
  clear hR
  go_enter Tryd.func52, Tryd.ntmps52
  go_wp2_with fail
  exact bodyPost_ret (v := .tuple #[.int .i64 (lab t), .nilIface]) (by simp [results, Tryd.results52, go_sem, *]) rfl ⟨rfl, (by repeat (first | exact Grew.refl _ | assumption | refine Grew.drew ?_ | refine Grew.alloc ?_ _ | refine Grew.setCell ?_ (by (try simp only [World.size_alloc, World.size_drew]); omega) _ | refine Grew.trans ?_ (by assumption)))⟩
end Go.Proofs.YtbgbfljbjpbinaaDoor
namespace Go.Proofs.YtbgbfljbjpbinaaDoor
set_option linter.unusedSimpArgs false
set_option linter.unusedVariables false
open Go.RowKit Go.Maps

theorem reach3 {lab : Nat → Int} {label : Int} {t j : Nat} (h : Reach 3 3 lab label t j) (h1 : lab 1 = -1) (ht : t = 0 ∨ t = 2) : j = t := by
  induction h with
  | refl => rfl
  | @step j k _ hm hk _ ih =>
    subst ih
    have h0 : nbr 3 3 0 = [1] := by decide
    have h2 : nbr 3 3 2 = [1] := by decide
    have : k = 1 := by
      rcases ht with rfl | rfl
      · rw [h0] at hm; simp at hm; omega
      · rw [h2] at hm; simp at hm; omega
    subst this
    exact absurd h1 hk
theorem fill3 {lab : Nat → Int} {label : Int} {t n : Nat} {R : Nat → Bool} (h : FillAt 3 3 t label lab R [] n) (h1 : lab 1 = -1) (ht : t = 0 ∨ t = 2) (j : Nat) : R j = decide (j = t) := by
  by_cases e : j = t
  · subst e; simp [h.r0]
  · cases hR : R j
    · simp [e]
    · exact absurd (reach3 (h.rr j hR) h1 ht) e

theorem ph1_3 {lab1 : Nat → Int} (h : Ph1 3 3 0 [0, 2] (fun j => if j = 1 then -1 else 0) 2 lab1) : lab1 0 = 3 ∧ lab1 1 = -1 ∧ lab1 2 = 5 := by
  cases h with
  | @skip i k lab h hk _ hl =>
    obtain rfl : k = 2 := by simp at hk; omega
    exfalso
    cases h with
    | @skip i k lab h hk _ hl => cases h; obtain rfl : k = 0 := by simp at hk; omega
                                 simp at hl
    | @fill i k lab R h hk _ hl hF =>
      cases h
      obtain rfl : k = 0 := by simp at hk; omega
      have f2 : R 2 = false := by rw [fill3 hF (by simp) (.inl rfl)]; decide
      simp [f2] at hl
  | @fill i k lab R h hk _ hl hF =>
    obtain rfl : k = 2 := by simp at hk; omega
    cases h with
    | @skip i k lab h hk _ hl => cases h; obtain rfl : k = 0 := by simp at hk; omega
                                 simp at hl
    | @fill i k lab R' h hk _ hl hF' =>
      cases h
      obtain rfl : k = 0 := by simp at hk; omega
      have f' := fill3 hF' (by simp) (.inl rfl)
      have f := fill3 hF (by simp [f']) (.inr rfl)
      simp [f, f']
theorem ph2_3 {lab1 lab2 : Nat → Int} {D1 D2 : DataW Unit} (h0 : lab1 0 = 3) (h1 : lab1 1 = -1) (h2 : lab1 2 = 5) (h : Ph2 3 3 lab1 D1 3 lab2 D2) : lab2 0 = 0 ∧ lab2 1 = -1 ∧ lab2 2 = 2 := by
  have s1 : ∀ lab D, Ph2 3 3 lab1 D1 1 lab D → lab 0 = 0 ∧ lab 1 = -1 ∧ lab 2 = 5 := by
    intro lab D h
    cases h with
    | skip h _ hl => cases h; omega
    | @fill k lab D R h _ _ hF =>
      cases h
      have f := fill3 hF h1 (.inl rfl)
      simp [f, h1, h2]
  have s2 : ∀ lab D, Ph2 3 3 lab1 D1 2 lab D → lab 0 = 0 ∧ lab 1 = -1 ∧ lab 2 = 5 := by
    intro lab D h
    cases h with
    | skip h _ hl => exact s1 _ _ h
    | fill h _ hl hF =>
      obtain ⟨e0, e1, e2⟩ := s1 _ _ h
      exfalso
      simp only [Nat.zero_add] at hl
      omega
  cases h with
  | skip h _ hl =>
    obtain ⟨e0, e1, e2⟩ := s2 _ _ h
    exfalso
    simp only [Nat.zero_add] at hl
    omega
  | @fill k lab D R h _ _ hF =>
    obtain ⟨e0, e1, e2⟩ := s2 _ _ h
    have f := fill3 hF e1 (.inr rfl)
    simp [f, e0, e1]
theorem cut3 {D D2 : DataW Unit} {lab2 : Nat → Int} (h : CutStep 3 3 1 (fun _ => 0) D lab2 D2) : lab2 0 = 0 ∧ lab2 1 = -1 ∧ lab2 2 = 2 := by
  obtain ⟨lab1, h1, h2⟩ := h
  rw [show nbr 3 3 1 = [0, 2] by decide] at h1
  obtain ⟨e0, e1, e2⟩ := ph1_3 h1
  exact ph2_3 e0 e1 e2 h2
theorem reach3b {lab : Nat → Int} {j : Nat} (h : Reach 3 3 lab 0 2 j) (h0 : lab 0 = 0) : j = 2 ∨ j = 1 := by
  induction h with
  | refl => exact .inl rfl
  | @step j k _ hm hk hl ih =>
    have h1 : nbr 3 3 1 = [0, 2] := by decide
    have h2 : nbr 3 3 2 = [1] := by decide
    rcases ih with rfl | rfl
    · rw [h2] at hm; simp at hm; omega
    · rw [h1] at hm; simp at hm
      rcases hm with e | e
      · obtain rfl : k = 0 := by omega
        exact absurd h0 hl
      · left; omega
theorem join3 {lab lab2 : Nat → Int} {D D2 : DataW Unit} (h0 : lab 0 = 0) (h1 : lab 1 = -1) (h2 : lab 2 = 2) (h : JoinStep 3 3 1 lab D lab2 D2) : lab2 0 = 0 ∧ lab2 1 = 0 ∧ lab2 2 = 0 := by
  obtain ⟨m, s, D1, hm, _, _, hj⟩ := h
  rw [show nbr 3 3 1 = [0, 2] by decide] at hm hj
  obtain rfl : m = 0 := by
    have s1 : ∀ m, Lst [0, 2] lab ((1 : Nat) : Int) 1 m → m = 0 := by
      intro m h
      cases h with
      | @skip i k m h hk hl => cases h; obtain rfl : k = 0 := by simp at hk; omega
                               omega
      | @take i k m h hk hl => cases h; obtain rfl : k = 0 := by simp at hk; omega
                               simp [h0]
    have s2 : ∀ m, Lst [0, 2] lab ((1 : Nat) : Int) 2 m → m = 0 := by
      intro m h
      cases h with
      | skip h hk hl => exact s1 _ h
      | @take i k m h hk hl =>
        obtain rfl : k = 2 := by simp at hk; omega
        have := s1 _ h
        subst this
        simp [h2]
    exact s2 m hm
  have s1 : ∀ lab', Jn 3 3 0 [0, 2, 1] (fun j => if j = 1 then ((1 : Nat) : Int) else lab j) 1 lab' → lab' 0 = 0 ∧ lab' 1 = 1 ∧ lab' 2 = 2 := by
    intro lab' h
    cases h with
    | skip h _ _ _ => cases h; simp [h0, h2]
    | @fill i k lab R h hk _ h3 h4 =>
      cases h
      obtain rfl : k = 0 := by simp at hk; omega
      simp [h0] at h4
  have s2 : ∀ lab', Jn 3 3 0 [0, 2, 1] (fun j => if j = 1 then ((1 : Nat) : Int) else lab j) 2 lab' → lab' 0 = 0 ∧ lab' 1 = 0 ∧ lab' 2 = 0 := by
    intro lab' h
    cases h with
    | @skip i k lab h hk _ hl =>
      obtain rfl : k = 2 := by simp at hk; omega
      obtain ⟨e0, e1, e2⟩ := s1 _ h
      omega
    | @fill i k lab R h hk _ h3 h4 hF =>
      obtain rfl : k = 2 := by simp at hk; omega
      obtain ⟨e0, e1, e2⟩ := s1 _ h
      have r1 : R 1 = true := by
        rcases hF.cl 2 hF.r0 (by simp) 1 (by decide) with e | e | e
        · omega
        · omega
        · exact e
      simp [hF.r0, r1, e0]
  cases hj with
  | skip h _ _ _ => exact s2 _ h
  | @fill i k lab R h hk _ h3 h4 hF =>
    obtain rfl : k = 1 := by simp at hk; omega
    obtain ⟨e0, e1, e2⟩ := s2 _ h
    exact absurd e1 h4
end Go.Proofs.YtbgbfljbjpbinaaDoor
namespace Go.Proofs.YtbgbfljbjpbinaaDoor
set_option linter.unusedSimpArgs false
set_option linter.unusedVariables false
open Go.RowKit Go.Maps

theorem nbr_iff {W N j k : Nat} : (k : Int) ∈ nbr W N j ↔ (W ≤ j ∧ k + W = j) ∨ (0 < j % W ∧ k + 1 = j) ∨ (j % W < W - 1 ∧ k = j + 1) ∨ (j + W < N ∧ k = j + W) := by
  unfold nbr
  simp only [List.mem_append]
  constructor
  · rintro (((h | h) | h) | h)
    · split at h
      · simp at h; left; omega
      · cases h
    · split at h
      · rename_i h0
        simp at h
        have : 0 < j := by apply Nat.pos_of_ne_zero; rintro rfl; simp at h0
        right; left; omega
      · cases h
    · split at h
      · simp at h; right; right; left; omega
      · cases h
    · split at h
      · simp at h; right; right; right; omega
      · cases h
  · rintro (⟨h, e⟩ | ⟨h, e⟩ | ⟨h, e⟩ | ⟨h, e⟩)
    · left; left; left; rw [if_pos h]; simp; omega
    · left; left; right; rw [if_pos h]; simp; omega
    · left; right; rw [if_pos h]; simp; omega
    · right; rw [if_pos h]; simp; omega
theorem nbr_symm {W N j k : Nat} (hW : 1 ≤ W) (hj : j < N) (h : (k : Int) ∈ nbr W N j) : (j : Int) ∈ nbr W N k := by
  rw [nbr_iff] at h ⊢
  have hk := Nat.div_add_mod k W
  have hjd := Nat.div_add_mod j W
  have m1 := Nat.mod_lt k (show 0 < W by omega)
  have m2 := Nat.mod_lt j (show 0 < W by omega)
  rcases h with ⟨h, e⟩ | ⟨h, e⟩ | ⟨h, e⟩ | ⟨h, e⟩
  · right; right; right; omega
  · right; right; left
    have : k % W = j % W - 1 := by
      have : k = W * (j / W) + (j % W - 1) := by omega
      rw [this, Nat.mul_add_mod, Nat.mod_eq_of_lt (by omega)]
    omega
  · right; left
    have : k % W = j % W + 1 := by
      have : k = W * (j / W) + (j % W + 1) := by omega
      rw [this, Nat.mul_add_mod, Nat.mod_eq_of_lt (by omega)]
    omega
  · left; omega
/-- Free tiles next to each other bear one label. -/
def Uni (W N : Nat) (lab : Nat → Int) : Prop := ∀ j k : Nat, j < N → (k : Int) ∈ nbr W N j → lab j ≠ -1 → lab k ≠ -1 → lab j = lab k
theorem Uni.fill {W H N t n : Nat} {label : Int} {lab : Nat → Int} {R : Nat → Bool} (h : Uni W N lab) (hW : 1 ≤ W) (hN : N = W * H) (hF : FillAt W N t label lab R [] n) : Uni W N (fun j => if R j = true then label else lab j) := by
  intro j k hj hk h1 h2
  obtain ⟨k', e, hkN⟩ := nbr_mem hW hN hj hk
  obtain rfl : k = k' := by omega
  dsimp only at h1 h2 ⊢
  by_cases rj : R j = true
  · by_cases rk : R k = true
    · rw [if_pos rj, if_pos rk]
    · rw [if_neg rk] at h2
      rw [if_pos rj, if_neg rk]
      rcases hF.cl j rj (by simp) k hk with e | e | e
      · exact absurd e h2
      · exact e.symm
      · exact absurd e rk
  · by_cases rk : R k = true
    · rw [if_neg rj] at h1
      rw [if_neg rj, if_pos rk]
      rcases hF.cl k rk (by simp) j (nbr_symm hW hj hk) with e | e | e
      · exact absurd e h1
      · exact e
      · exact absurd e rj
    · rw [if_neg rj] at h1
      rw [if_neg rk] at h2
      rw [if_neg rj, if_neg rk]
      exact h j k hj hk h1 h2
/-- What is filled bore the first tile's label. -/
theorem Reach.uni {W H N t j : Nat} {label : Int} {lab : Nat → Int} (h : Reach W N lab label t j) (hu : Uni W N lab) (hW : 1 ≤ W) (hN : N = W * H) (ht : t < N) (h0 : lab t ≠ -1) : j < N ∧ lab j = lab t := by
  induction h with
  | refl => exact ⟨ht, rfl⟩
  | @step j k _ hm hk _ ih =>
    obtain ⟨hj, e⟩ := ih
    obtain ⟨k', e', hkN⟩ := nbr_mem hW hN hj hm
    obtain rfl : k = k' := by omega
    exact ⟨hkN, (hu j k hj hm (by rw [e]; exact h0) hk).symm.trans e⟩
end Go.Proofs.YtbgbfljbjpbinaaDoor
namespace Go.Proofs.YtbgbfljbjpbinaaDoor
set_option linter.unusedSimpArgs false
set_option linter.unusedVariables false
open Go.RowKit Go.Maps

theorem ph1_uni {W H N i : Nat} {old : Int} {ns : List Int} {lab0 lab : Nat → Int} (h : Ph1 W N old ns lab0 i lab) (hW : 1 ≤ W) (hN : N = W * H) (h0 : Uni W N lab0) : Uni W N lab := by
  induction h with
  | start => exact h0
  | skip _ _ _ _ ih => exact ih
  | fill _ _ _ _ hF ih => exact ih.fill hW hN hF
theorem ph2_uni {W H N k : Nat} {lab1 lab : Nat → Int} {D1 D : DataW Unit} (h : Ph2 W N lab1 D1 k lab D) (hW : 1 ≤ W) (hN : N = W * H) (h0 : Uni W N lab1) : Uni W N lab := by
  induction h with
  | start => exact h0
  | skip _ _ _ ih => exact ih
  | fill _ _ _ hF ih => exact ih.fill hW hN hF
theorem Uni.cut {W N t : Nat} {lab : Nat → Int} (h : Uni W N lab) : Uni W N (fun j => if j = t then -1 else lab j) := by
  intro j k hj hk h1 h2
  dsimp only at h1 h2 ⊢
  by_cases e1 : j = t
  · rw [if_pos e1] at h1; exact absurd rfl h1
  · by_cases e2 : k = t
    · rw [if_pos e2] at h2; exact absurd rfl h2
    · rw [if_neg e1] at h1 ⊢
      rw [if_neg e2] at h2 ⊢
      exact h j k hj hk h1 h2
theorem CutStep.uni {W H N t : Nat} {lab lab2 : Nat → Int} {D D2 : DataW Unit} (h : CutStep W N t lab D lab2 D2) (hW : 1 ≤ W) (hN : N = W * H) (h0 : Uni W N lab) : Uni W N lab2 := by
  obtain ⟨lab1, h1, h2⟩ := h
  exact ph2_uni h2 hW hN (ph1_uni h1 hW hN h0.cut)
theorem Cuts.uni {W H N i : Nat} {L : List Int} {lab0 lab : Nat → Int} {D0 D : DataW Unit} (h : Cuts W N L lab0 D0 i lab D) (hW : 1 ≤ W) (hN : N = W * H) (h0 : Uni W N lab0) : Uni W N lab := by
  induction h with
  | start => exact h0
  | step _ _ _ hs ih => exact hs.uni hW hN ih

theorem ph1_kept {W H N i : Nat} {old : Int} {ns : List Int} {lab0 lab : Nat → Int} (h : Ph1 W N old ns lab0 i lab) (hW : 1 ≤ W) (hN : N = W * H) (h0 : Uni W N lab0) (ho : old ≠ -1) (hoN : old < N) (j : Nat) (hj : j < N) : lab j = lab0 j ∨ (lab0 j = old ∧ (N : Int) ≤ lab j) := by
  induction h with
  | start => exact .inl rfl
  | skip _ _ _ _ ih => exact ih
  | @fill i k lab R hp _ hk hl hF ih =>
    dsimp only
    by_cases r : R j = true
    · rw [if_pos r]
      have hu := ph1_uni hp hW hN h0
      have := (Reach.uni (hF.rr j r) hu hW hN hk (by rw [hl]; exact ho)).2
      rw [hl] at this
      rcases ih with e | ⟨e1, e2⟩
      · right; exact ⟨by rw [← e]; exact this, by omega⟩
      · omega
    · rw [if_neg r]; exact ih
theorem ph2_kept {W H N k : Nat} {lab1 lab : Nat → Int} {D1 D : DataW Unit} (h : Ph2 W N lab1 D1 k lab D) (hW : 1 ≤ W) (hN : N = W * H) (h0 : Uni W N lab1) (j : Nat) (hj : lab1 j < N) : lab j = lab1 j := by
  induction h with
  | start => rfl
  | skip _ _ _ ih => exact ih
  | @fill k lab D R hp hk hl hF ih =>
    dsimp only
    by_cases r : R j = true
    · have hu := ph2_uni hp hW hN h0
      have := (Reach.uni (hF.rr j r) hu hW hN hk (by omega)).2
      omega
    · rw [if_neg r]; exact ih
/-- A tile that bore another label than the cut one keeps it; the cut one bears none. -/
theorem CutStep.kept {W H N t : Nat} {lab lab2 : Nat → Int} {D D2 : DataW Unit} (h : CutStep W N t lab D lab2 D2) (hW : 1 ≤ W) (hN : N = W * H) (h0 : Uni W N lab) (hr : LabOk N lab) (ht : t < N) (hf : lab t ≠ -1) : lab2 t = -1 ∧ ∀ j, j < N → lab j ≠ lab t → lab2 j = lab j := by
  obtain ⟨lab1, h1, h2⟩ := h
  have ho := hr t ht
  have k1 := fun j hj => ph1_kept h1 hW hN h0.cut hf ho.2 j hj
  have k2 := fun j hj => ph2_kept h2 hW hN (ph1_uni h1 hW hN h0.cut) j hj
  have key : ∀ j, j < N → (if j = t then (-1 : Int) else lab j) ≠ lab t → lab2 j = (if j = t then (-1 : Int) else lab j) := fun j hj hne => by
    rcases k1 j hj with e | ⟨e1, _⟩
    · have hlt : lab1 j < N := by
        rw [e]
        have := hr j hj
        split <;> omega
      rw [k2 j hlt, e]
    · exact absurd e1 hne
  refine ⟨?_, fun j hj hne => ?_⟩
  · have := key t ht (by rw [if_pos rfl]; exact fun e => hf e.symm)
    rwa [if_pos rfl] at this
  · by_cases e : j = t
    · subst e; exact absurd rfl hne
    · have := key j hj (by rw [if_neg e]; exact hne)
      rwa [if_neg e] at this
end Go.Proofs.YtbgbfljbjpbinaaDoor
namespace Go.Proofs.YtbgbfljbjpbinaaDoor
set_option linter.unusedSimpArgs false
set_option linter.unusedVariables false
open Go.RowKit Go.Maps

/-- A way over free tiles. -/
inductive Conn (W N : Nat) (fr : Nat → Bool) (a : Nat) : Nat → Prop
  | refl : Conn W N fr a a
  | step {j k : Nat} : Conn W N fr a j → (k : Int) ∈ nbr W N j → fr k = true → Conn W N fr a k
theorem nbr_lt {W H N j k : Nat} (hW : 1 ≤ W) (hN : N = W * H) (hj : j < N) (h : (k : Int) ∈ nbr W N j) : k < N := by
  obtain ⟨k', e, hk⟩ := nbr_mem hW hN hj h
  omega
theorem Conn.lt {W H N a j : Nat} {fr : Nat → Bool} (h : Conn W N fr a j) (hW : 1 ≤ W) (hN : N = W * H) (ha : a < N) : j < N := by
  induction h with
  | refl => exact ha
  | step _ hk _ ih => exact nbr_lt hW hN ih hk
theorem Conn.free {W N a j : Nat} {fr : Nat → Bool} (h : Conn W N fr a j) (ha : fr a = true) : fr j = true := by
  cases h with
  | refl => exact ha
  | step _ _ hf => exact hf
theorem Conn.trans {W N a b c : Nat} {fr : Nat → Bool} (h : Conn W N fr a b) (k : Conn W N fr b c) : Conn W N fr a c := by
  induction k with
  | refl => exact h
  | step _ hk hf ih => exact .step ih hk hf
theorem Conn.symm {W H N a j : Nat} {fr : Nat → Bool} (h : Conn W N fr a j) (hW : 1 ≤ W) (hN : N = W * H) (ha : a < N) (hf : fr a = true) : Conn W N fr j a := by
  induction h with
  | refl => exact .refl
  | @step j k hc hk hfk ih => exact (Conn.step .refl (nbr_symm hW (hc.lt hW hN ha) hk) (hc.free hf)).trans ih
theorem Conn.mono {W N a j : Nat} {fr fr' : Nat → Bool} (h : Conn W N fr a j) (hm : ∀ k, fr k = true → fr' k = true) : Conn W N fr' a j := by
  induction h with
  | refl => exact .refl
  | step _ hk hf ih => exact .step ih hk (hm _ hf)

/-- Each free tile bears the least tile that hangs together with it. -/
structure Canon (W N : Nat) (fr : Nat → Bool) (lab : Nat → Int) : Prop where
  nf : ∀ j, j < N → fr j = false → lab j = -1
  f : ∀ j, j < N → fr j = true → ∃ m : Nat, lab j = m ∧ m ≤ j ∧ fr m = true ∧ Conn W N fr m j
  u : Uni W N lab
theorem Conn.lab {W H N a j : Nat} {fr : Nat → Bool} {lab : Nat → Int} (h : Conn W N fr a j) (hW : 1 ≤ W) (hN : N = W * H) (ha : a < N) (hf : fr a = true) (hu : Uni W N lab) (hl : ∀ j, j < N → fr j = true → lab j ≠ -1) : lab j = lab a := by
  induction h with
  | refl => rfl
  | @step j k hc hk hfk ih =>
    have hj := hc.lt hW hN ha
    rw [← ih]
    exact (hu j k hj hk (hl j hj (hc.free hf)) (hl k (nbr_lt hW hN hj hk) hfk)).symm
theorem Canon.ne {W N : Nat} {fr : Nat → Bool} {lab : Nat → Int} (h : Canon W N fr lab) : ∀ j, j < N → fr j = true → lab j ≠ -1 := fun j hj hf => by
  obtain ⟨m, e, _⟩ := h.f j hj hf
  omega
theorem Canon.fr_of {W N : Nat} {fr : Nat → Bool} {lab : Nat → Int} (h : Canon W N fr lab) {j : Nat} (hj : j < N) (hl : lab j ≠ -1) : fr j = true := by
  cases e : fr j
  · exact absurd (h.nf j hj e) hl
  · rfl
theorem Canon.ok {W N : Nat} {fr : Nat → Bool} {lab : Nat → Int} (h : Canon W N fr lab) : LabOk N lab := fun j hj => by
  cases e : fr j
  · rw [h.nf j hj e]; omega
  · obtain ⟨m, e, hm, _⟩ := h.f j hj e
    omega
/-- A label bears itself. -/
theorem Canon.self {W H N j : Nat} {fr : Nat → Bool} {lab : Nat → Int} (h : Canon W N fr lab) (hW : 1 ≤ W) (hN : N = W * H) (hj : j < N) (hl : lab j ≠ -1) : ∃ m : Nat, lab j = m ∧ m ≤ j ∧ m < N ∧ lab m = m ∧ fr m = true ∧ Conn W N fr m j := by
  obtain ⟨m, e, hm, hf, hc⟩ := h.f j hj (h.fr_of hj hl)
  refine ⟨m, e, hm, by omega, ?_, hf, hc⟩
  rw [← hc.lab hW hN (by omega) hf h.u h.ne, e]
theorem Canon.le {W H N : Nat} {fr : Nat → Bool} {lab lab' : Nat → Int} (h : Canon W N fr lab) (h' : Canon W N fr lab') (hW : 1 ≤ W) (hN : N = W * H) {j : Nat} (hj : j < N) (hf : fr j = true) : lab j ≤ lab' j := by
  obtain ⟨m', e', hm', hf', hc'⟩ := h'.f j hj hf
  obtain ⟨m, e, hm, _⟩ := h.f m' (by omega) hf'
  rw [hc'.lab hW hN (by omega) hf' h.u h.ne, e']
  omega
theorem Canon.unique {W H N : Nat} {fr : Nat → Bool} {lab lab' : Nat → Int} (h : Canon W N fr lab) (h' : Canon W N fr lab') (hW : 1 ≤ W) (hN : N = W * H) (j : Nat) (hj : j < N) : lab j = lab' j := by
  cases hf : fr j
  · rw [h.nf j hj hf, h'.nf j hj hf]
  · have := h.le h' hW hN hj hf
    have := h'.le h hW hN hj hf
    omega
theorem Canon.congr {W N : Nat} {fr fr' : Nat → Bool} {lab : Nat → Int} (h : Canon W N fr lab) (e : ∀ j, fr j = fr' j) : Canon W N fr' lab := by
  obtain rfl : fr = fr' := funext e
  exact h

/-- How many of the first N tiles bear a label. -/
def cnt (N : Nat) (lab : Nat → Int) (l : Nat) : Nat := (passed (fun j => decide (lab j = (l : Int))) N).length
/-- How many labels there are. -/
def many (N : Nat) (lab : Nat → Int) : Nat := (passed (fun j => decide (lab j = (j : Int))) N).length
theorem plen_congr {f g : Nat → Bool} {N : Nat} (h : ∀ j, j < N → f j = g j) : (passed f N).length = (passed g N).length := by rw [passed_congr h]
theorem plen_or {f g : Nat → Bool} {N : Nat} (h : ∀ j, j < N → f j = true → g j = false) : (passed (fun j => f j || g j) N).length = (passed f N).length + (passed g N).length := by
  induction N with
  | zero => rfl
  | succ N ih =>
    have := ih fun j hj => h j (by omega)
    cases hf : f N
    · cases hg : g N
      · rw [passed_miss hf, passed_miss hg, passed_miss (f := fun j => f j || g j) (by simp [hf, hg]), this]
      · rw [passed_miss hf, passed_hit hg, passed_hit (f := fun j => f j || g j) (by simp [hf, hg])]
        simp only [List.length_append, this]; rfl
    · have hg := h N (by omega) hf
      rw [passed_hit hf, passed_miss hg, passed_hit (f := fun j => f j || g j) (by simp [hf])]
      simp only [List.length_append, this, List.length_singleton]
      omega
/-- The map holds each label's size, and nothing else. -/
structure SzOk (N : Nat) (lab : Nat → Int) (D : DataW Unit) : Prop where
  td : Tidy D
  hs : ∀ l : Nat, l < N → has D (.int .i64 l) = decide (lab l = (l : Int))
  at_ : ∀ l : Nat, l < N → lab l = (l : Int) → ∀ z, D.atKey (.int .i64 l) z = .lit (.int .i64 (cnt N lab l))
  sz : size D = many N lab
theorem SzOk.congr {N : Nat} {lab lab' : Nat → Int} {D : DataW Unit} (h : SzOk N lab D) (e : ∀ j, j < N → lab j = lab' j) : SzOk N lab' D := by
  have ec : ∀ l, cnt N lab l = cnt N lab' l := fun l => plen_congr fun j hj => by rw [e j hj]
  have em : many N lab = many N lab' := plen_congr fun j hj => by rw [e j hj]
  exact ⟨h.td, fun l hl => by rw [h.hs l hl, e l hl], fun l hl hl2 z => by rw [h.at_ l hl (by rw [e l hl]; exact hl2), ec], by rw [h.sz, em]⟩
theorem key_lit (l : Int) : WideAt.IsKeyLit (.int .i64 l) := by simp [WideAt.IsKeyLit]
theorem key_ne {a b : Nat} (h : a ≠ b) : Lit.int .i64 (a : Int) ≠ Lit.int .i64 (b : Int) := by
  intro e
  injection e with _ e
  omega

/-- What cut's first loop leaves behind. -/
theorem ph1_done {W H N i : Nat} {old : Int} {ns : List Int} {lab0 lab : Nat → Int} (h : Ph1 W N old ns lab0 i lab) (ho : old < N) (q k : Nat) (hq : q < i) (hk : ns[q]? = some (k : Int)) : lab k ≠ old := by
  induction h with
  | start => omega
  | @skip i k' lab hp hk' hkN hl ih =>
    by_cases e : q = i
    · subst e
      rw [hk'] at hk
      obtain rfl : k' = k := by have := Option.some.inj hk; omega
      exact hl
    · exact ih (by omega)
  | @fill i k' lab R hp hk' hkN hl hF ih =>
    dsimp only
    by_cases e : q = i
    · subst e
      rw [hk'] at hk
      obtain rfl : k' = k := by have := Option.some.inj hk; omega
      rw [if_pos hF.r0]; omega
    · split
      · omega
      · exact ih (by omega)

/-- Between two rounds of cut's second loop. -/
structure P2 (W N : Nat) (fr : Nat → Bool) (k : Nat) (lab : Nat → Int) (D : DataW Unit) : Prop where
  nf : ∀ j, j < N → fr j = false → lab j = -1
  f : ∀ j, j < N → fr j = true → (∃ m : Nat, lab j = m ∧ m ≤ j ∧ fr m = true ∧ Conn W N fr m j) ∨ ((N : Int) ≤ lab j ∧ k ≤ j)
  u : Uni W N lab
  s : SzOk N lab D
theorem P2.ne {W N k : Nat} {fr : Nat → Bool} {lab : Nat → Int} {D : DataW Unit} (h : P2 W N fr k lab D) : ∀ j, j < N → fr j = true → lab j ≠ -1 := fun j hj hf => by
  rcases h.f j hj hf with ⟨m, e, _⟩ | ⟨e, _⟩ <;> omega
theorem Reach.conn {W H N t j : Nat} {label : Int} {lab : Nat → Int} {fr : Nat → Bool} (h : Reach W N lab label t j) (hW : 1 ≤ W) (hN : N = W * H) (ht : t < N) (hf : ∀ j, j < N → lab j ≠ -1 → fr j = true) : j < N ∧ Conn W N fr t j := by
  induction h with
  | refl => exact ⟨ht, .refl⟩
  | @step j k _ hk h1 _ ih =>
    have := nbr_lt hW hN ih.1 hk
    exact ⟨this, .step ih.2 hk (hf k this h1)⟩
theorem P2.fill {W H N k : Nat} {fr : Nat → Bool} {lab : Nat → Int} {D : DataW Unit} {R : Nat → Bool} (h : P2 W N fr k lab D) (hW : 1 ≤ W) (hN : N = W * H) (hk : k < N) (hl : (N : Int) ≤ lab k) (hF : FillAt W N k k lab R [] (passed R N).length) :
    P2 W N fr (k + 1) (fun j => if R j = true then (k : Int) else lab j) (D.put (.int .i64 k) (.lit (.int .i64 (passed R N).length))) := by
  have hfr : ∀ j, j < N → lab j ≠ -1 → fr j = true := fun j hj hne => by
    cases e : fr j
    · exact absurd (h.nf j hj e) hne
    · rfl
  have hR : ∀ j, R j = true → j < N ∧ lab j = lab k ∧ fr j = true ∧ k ≤ j ∧ Conn W N fr k j := fun j hj => by
    have h1 := Reach.uni (hF.rr j hj) h.u hW hN hk (by omega)
    have h2 := (hF.rr j hj).conn hW hN hk hfr
    have h3 := hfr j h1.1 (by omega)
    refine ⟨h1.1, h1.2, h3, ?_, h2.2⟩
    rcases h.f j h1.1 h3 with ⟨m, e, hm, _⟩ | ⟨_, e⟩
    · omega
    · exact e
  have hRk := hF.r0
  have hfk := (hR k hRk).2.2.1
  have hno : ∀ j, j < N → lab j ≠ (k : Int) := fun j hj e => by
    rcases h.f j hj (hfr j hj (by omega)) with ⟨m, em, hm, hfm, hc⟩ | ⟨e2, _⟩
    · obtain rfl : m = k := by omega
      have := hc.lab hW hN hk hfm h.u h.ne
      omega
    · omega
  refine ⟨fun j hj hf => ?_, fun j hj hf => ?_, h.u.fill hW hN hF, ?_⟩
  · by_cases r : R j = true
    · have := (hR j r).2.2.1
      rw [this] at hf; cases hf
    · rw [if_neg r]; exact h.nf j hj hf
  · by_cases r : R j = true
    · rw [if_pos r]
      exact .inl ⟨k, rfl, (hR j r).2.2.2.1, hfk, (hR j r).2.2.2.2⟩
    · rw [if_neg r]
      rcases h.f j hj hf with hm | ⟨e, hkj⟩
      · exact .inl hm
      · refine .inr ⟨e, ?_⟩
        have : j ≠ k := fun e => r (by rw [e]; exact hRk)
        omega
  · have hiff : ∀ l : Nat, l < N → l ≠ k → ∀ j, j < N → decide ((if R j = true then (k : Int) else lab j) = (l : Int)) = decide (lab j = (l : Int)) := fun l hl hlk j hj => by
      by_cases r : R j = true
      · rw [if_pos r]
        have := (hR j r).2.1
        rw [decide_eq_decide]
        constructor <;> intro e <;> omega
      · rw [if_neg r]
    have hkk : has D (.int .i64 k) = false := by
      rw [h.s.hs k hk]
      simp [hno k hk]
    refine ⟨h.s.td.put (key_lit _) _, fun l hl => ?_, fun l hl hl2 z => ?_, ?_⟩
    · by_cases e : l = k
      · subst e
        rw [has_put_same h.s.td.isMap (key_lit _)]
        simp [hRk]
      · rw [has_put_other (key_ne e), h.s.hs l hl, ← hiff l hl e l hl]
    · by_cases e : l = k
      · subst e
        rw [atKey_put_same h.s.td.isMap (key_lit _)]
        have : (passed R N).length = cnt N (fun j => if R j = true then (l : Int) else lab j) l := plen_congr fun j hj => by
          by_cases r : R j = true
          · simp [r]
          · have := hno j hj
            simp [r, this]
        rw [this]
      · rw [atKey_put_other (key_ne e)]
        have e1 := hiff l hl e
        rw [h.s.at_ l hl (by have := e1 l hl; simp only [decide_eq_decide] at this; exact this.1 hl2) z]
        have : cnt N lab l = cnt N (fun j => if R j = true then (k : Int) else lab j) l := plen_congr fun j hj => (e1 j hj).symm
        rw [this]
    · rw [size_put h.s.td, hkk, h.s.sz]
      simp only [Bool.false_eq_true, if_false]
      have := passed_len_more (f := fun j => decide (lab j = (j : Int))) (k := k) hk (by simp [hno k hk])
      unfold many
      rw [← this]
      refine plen_congr fun j hj => ?_
      by_cases e : j = k
      · subst e; simp [hRk]
      · have := hiff j hj e j hj
        rw [this]; simp [e]
theorem P2.run {W H N k : Nat} {fr : Nat → Bool} {lab1 lab : Nat → Int} {D1 D : DataW Unit} (h : Ph2 W N lab1 D1 k lab D) (hW : 1 ≤ W) (hN : N = W * H) (h0 : P2 W N fr 0 lab1 D1) : P2 W N fr k lab D := by
  induction h with
  | start => exact h0
  | @skip k lab D _ hk hl ih =>
    refine ⟨ih.nf, fun j hj hf => ?_, ih.u, ih.s⟩
    rcases ih.f j hj hf with hm | ⟨e, hkj⟩
    · exact .inl hm
    · refine .inr ⟨e, ?_⟩
      have : j ≠ k := fun e' => by subst e'; omega
      omega
  | @fill k lab D R _ hk hl hF ih => exact ih.fill hW hN hk hl hF

theorem Conn.avoid {W H N a j t : Nat} {fr : Nat → Bool} {lab : Nat → Int} (h : Conn W N fr a j) (hW : 1 ≤ W) (hN : N = W * H) (hC : Canon W N fr lab) (ha : a < N) (hf : fr a = true) (hne : lab a ≠ lab t) : Conn W N (fun x => fr x && !decide (x = t)) a j := by
  induction h with
  | refl => exact .refl
  | @step j k hc hk hfk ih =>
    refine .step ih hk ?_
    have := (Conn.step hc hk hfk).lab hW hN ha hf hC.u hC.ne
    have hkt : k ≠ t := fun e => by subst e; exact hne this.symm
    simp [hfk, hkt]
/-- Cut keeps the labels least, and the sizes right. -/
theorem CutStep.canon {W H N t : Nat} {fr : Nat → Bool} {lab lab2 : Nat → Int} {D D2 : DataW Unit} (h : CutStep W N t lab D lab2 D2) (hW : 1 ≤ W) (hN : N = W * H) (ht : t < N) (hC : Canon W N fr lab) (hS : SzOk N lab D) (hft : fr t = true) :
    Canon W N (fun x => fr x && !decide (x = t)) lab2 ∧ SzOk N lab2 D2 := by
  obtain ⟨lab1, h1, h2⟩ := h
  obtain ⟨m, hm, hmt, hmN, hmm, hfm, hcm⟩ := hC.self hW hN ht (hC.ne t ht hft)
  have hok := hC.ok
  have hu1 := ph1_uni h1 hW hN hC.u.cut
  have hk1 := fun j hj => ph1_kept h1 hW hN hC.u.cut (by omega) (hok t ht).2 j hj
  have hd1 := fun q k => ph1_done (H := H) h1 (hok t ht).2 q k
  -- what hung together with t bears a mark
  have hmark : ∀ j, Conn W N fr t j → j = t ∨ (N : Int) ≤ lab1 j := fun j hc => by
    induction hc with
    | refl => exact .inl rfl
    | @step j k hc hk hfk ih =>
      have hj := hc.lt hW hN ht
      have hkN := nbr_lt hW hN hj hk
      have hlk := hC.ne k hkN hfk
      by_cases ekt : k = t
      · exact .inl ekt
      right
      have hk0 := hk1 k hkN
      rw [if_neg ekt] at hk0
      rcases ih with ejt | hge
      · subst ejt
        obtain ⟨q, hq⟩ := List.getElem?_of_mem hk
        have hq2 : q < (nbr W N j).length := by
          rw [List.getElem?_eq_some_iff] at hq
          exact hq.1
        have := hd1 q k hq2 hq
        have e := hC.u j k hj hk (hC.ne j hj hft) hlk
        rcases hk0 with e1 | ⟨_, e1⟩
        · exact absurd (e1.trans e.symm) this
        · exact e1
      · have := hu1 j k hj hk (by omega) (by
          rcases hk0 with e1 | ⟨_, e1⟩
          · rw [e1]; exact hlk
          · omega)
        omega
  have hold : ∀ j, j < N → lab j = lab t → j ≠ t → (N : Int) ≤ lab1 j := fun j hj e hjt => by
    obtain ⟨m', hm', _, _, _, _, hcj⟩ := hC.self hW hN hj (by omega)
    obtain rfl : m' = m := by omega
    exact (hmark j ((hcm.symm hW hN hmN hfm).trans hcj)).resolve_left hjt
  have hkeep : ∀ j, j < N → lab j ≠ lab t → lab1 j = lab j := fun j hj hne => by
    have := hk1 j hj
    by_cases e : j = t
    · subst e; exact absurd rfl hne
    · rw [if_neg e] at this
      exact this.resolve_right fun h => hne h.1
  have ht1 : lab1 t = -1 := by
    have := hk1 t ht
    rw [if_pos rfl] at this
    exact this.resolve_right fun h => by omega
  have hP : P2 W N (fun x => fr x && !decide (x = t)) 0 lab1 (D.del (.int .i64 (lab t))) := by
    refine ⟨fun j hj hf => ?_, fun j hj hf => ?_, hu1, ?_⟩
    · by_cases e : j = t
      · subst e; exact ht1
      · have hfj : fr j = false := by simpa [e] using hf
        have := hC.nf j hj hfj
        rw [hkeep j hj (by omega), this]
    · have hfj : fr j = true ∧ j ≠ t := by simpa using hf
      by_cases e : lab j = lab t
      · exact .inr ⟨hold j hj e hfj.2, Nat.zero_le _⟩
      · left
        obtain ⟨m', hm', hm2, hm3, hm4, hm5, hcj⟩ := hC.self hW hN hj (hC.ne j hj hfj.1)
        refine ⟨m', by rw [hkeep j hj e, hm'], hm2, ?_, hcj.avoid hW hN hC hm3 hm5 (by omega)⟩
        have : m' ≠ t := fun e' => by subst e'; exact e (by omega)
        simp [hm5, this]
    · rw [hm]
      have hiff : ∀ l : Nat, l < N → l ≠ m → ∀ j, j < N → decide (lab1 j = (l : Int)) = decide (lab j = (l : Int)) := fun l hl hlm j hj => by
        by_cases e : lab j = lab t
        · by_cases e2 : j = t
          · subst e2; rw [ht1, decide_eq_decide]; constructor <;> intro e' <;> omega
          · have := hold j hj e e2
            rw [decide_eq_decide]; constructor <;> intro e' <;> omega
        · rw [hkeep j hj e]
      have hm1 : lab1 m ≠ (m : Int) := by
        by_cases e : m = t
        · subst e; rw [ht1]; omega
        · have := hold m hmN (by omega) e
          omega
      refine ⟨hS.td.del _, fun l hl => ?_, fun l hl hl2 z => ?_, ?_⟩
      · by_cases e : l = m
        · subst e; rw [has_del_same]; simp [hm1]
        · rw [has_del_other (key_ne e), hS.hs l hl, hiff l hl e l hl]
      · have e : l ≠ m := fun e => by subst e; exact hm1 hl2
        rw [atKey_del_other (key_ne e)]
        have e1 := hiff l hl e
        rw [hS.at_ l hl (by have := e1 l hl; simp only [decide_eq_decide] at this; exact this.1 hl2) z]
        have : cnt N lab l = cnt N lab1 l := plen_congr fun j hj => (e1 j hj).symm
        rw [this]
      · have hz := size_del (k := .int .i64 (m : Int)) hS.td
        rw [hS.hs m hmN, hS.sz] at hz
        simp only [hmm, decide_true, if_true] at hz
        have := passed_len_more (f := fun j => decide (lab1 j = (j : Int))) (k := m) hmN (by simp [hm1])
        have e2 : many N lab = (passed (fun j => decide (lab1 j = (j : Int)) || decide (j = m)) N).length := plen_congr fun j hj => by
          by_cases e : j = m
          · subst e; simp [hmm]
          · rw [hiff j hj e j hj]; simp [e]
        unfold many at e2 hz ⊢
        omega
  have := P2.run h2 hW hN hP
  refine ⟨⟨this.nf, fun j hj hf => ?_, this.u⟩, this.s⟩
  rcases this.f j hj hf with hm | ⟨_, e⟩
  · exact hm
  · omega
end Go.Proofs.YtbgbfljbjpbinaaDoor
namespace Go.Proofs.YtbgbfljbjpbinaaDoor
set_option linter.unusedSimpArgs false
set_option linter.unusedVariables false
open Go.RowKit Go.Maps

theorem Lst.facts {ns : List Int} {lab : Nat → Int} {t m : Int} {i : Nat} (h : Lst ns lab t i m) :
    m ≤ t ∧ (∀ q k : Nat, q < i → ns[q]? = some (k : Int) → lab k ≠ -1 → m ≤ lab k) ∧ (m = t ∨ ∃ k : Nat, (k : Int) ∈ ns ∧ lab k ≠ -1 ∧ m = lab k) := by
  induction h with
  | start => exact ⟨by omega, fun q k hq => by omega, .inl rfl⟩
  | @skip i k m _ hk hl ih =>
    refine ⟨ih.1, fun q k' hq hk' hne => ?_, ih.2.2⟩
    by_cases e : q = i
    · subst e
      rw [hk] at hk'
      obtain rfl : k = k' := by have := Option.some.inj hk'; omega
      exact absurd hl hne
    · exact ih.2.1 q k' (by omega) hk' hne
  | @take i k m _ hk hl ih =>
    refine ⟨by split <;> omega, fun q k' hq hk' hne => ?_, ?_⟩
    · by_cases e : q = i
      · subst e
        rw [hk] at hk'
        obtain rfl : k = k' := by have := Option.some.inj hk'; omega
        split <;> omega
      · have := ih.2.1 q k' (by omega) hk' hne
        split <;> omega
    · split
      · exact .inr ⟨k, List.mem_of_getElem? hk, hl, rfl⟩
      · exact ih.2.2

/-- Free neighbours other than t bear one label. -/
def UniBut (W N t : Nat) (lab : Nat → Int) : Prop := ∀ j k : Nat, j < N → (k : Int) ∈ nbr W N j → j ≠ t → k ≠ t → lab j ≠ -1 → lab k ≠ -1 → lab j = lab k
theorem UniBut.fill {W H N t k n : Nat} {label : Int} {lab : Nat → Int} {R : Nat → Bool} (h : UniBut W N t lab) (hW : 1 ≤ W) (hN : N = W * H) (hF : FillAt W N k label lab R [] n) : UniBut W N t (fun j => if R j = true then label else lab j) := by
  intro j k hj hk ej ek h1 h2
  have hkN := nbr_lt hW hN hj hk
  dsimp only at h1 h2 ⊢
  by_cases rj : R j = true
  · by_cases rk : R k = true
    · rw [if_pos rj, if_pos rk]
    · rw [if_neg rk] at h2
      rw [if_pos rj, if_neg rk]
      rcases hF.cl j rj (by simp) k hk with e | e | e
      · exact absurd e h2
      · exact e.symm
      · exact absurd e rk
  · by_cases rk : R k = true
    · rw [if_neg rj] at h1
      rw [if_neg rj, if_pos rk]
      rcases hF.cl k rk (by simp) j (nbr_symm hW hj hk) with e | e | e
      · exact absurd e h1
      · exact e
      · exact absurd e rj
    · rw [if_neg rj] at h1
      rw [if_neg rk] at h2
      rw [if_neg rj, if_neg rk]
      exact h j k hj hk ej ek h1 h2
/-- Between two rounds of join's third loop. -/
structure J3 (W N t : Nat) (m : Int) (fr' : Nat → Bool) (lab0 : Nat → Int) (ns : List Int) (i : Nat) (lab : Nat → Int) : Prop where
  k1 : ∀ j, j < N → lab j = lab0 j ∨ (lab j = m ∧ lab0 j ≠ -1 ∧ Conn W N fr' t j)
  k2 : ∀ q k : Nat, q < i → ns[q]? = some (k : Int) → lab k = -1 ∨ lab k = m
  u : UniBut W N t lab
theorem J3.run {W H N t i : Nat} {m : Int} {fr' : Nat → Bool} {lab0 lab : Nat → Int} {ns : List Int} (h : Jn W N m ns lab0 i lab) (hW : 1 ≤ W) (hN : N = W * H) (hf0 : ∀ j, j < N → lab0 j ≠ -1 → fr' j = true) (hns : ∀ k : Nat, (k : Int) ∈ ns → k = t ∨ (k : Int) ∈ nbr W N t) (h0 : UniBut W N t lab0) : J3 W N t m fr' lab0 ns i lab := by
  induction h with
  | start => exact ⟨fun j _ => .inl rfl, fun q k hq => by omega, h0⟩
  | @skip i k lab _ hk hkN hl ih =>
    refine ⟨ih.k1, fun q k' hq hk' => ?_, ih.u⟩
    by_cases e : q = i
    · subst e
      rw [hk] at hk'
      obtain rfl : k = k' := by have := Option.some.inj hk'; omega
      exact hl
    · exact ih.k2 q k' (by omega) hk'
  | @fill i k lab R _ hk hkN hl1 hl2 hF ih =>
    have hfl : ∀ j, j < N → lab j ≠ -1 → fr' j = true := fun j hj hne => by
      rcases ih.k1 j hj with e | ⟨_, e, _⟩
      · exact hf0 j hj (by rw [← e]; exact hne)
      · exact hf0 j hj e
    have hck : Conn W N fr' t k := by
      rcases hns k (List.mem_of_getElem? hk) with rfl | e
      · exact .refl
      · exact .step .refl e (hfl k hkN hl1)
    refine ⟨fun j hj => ?_, fun q k' hq hk' => ?_, ih.u.fill hW hN hF⟩
    · by_cases r : R j = true
      · rw [if_pos r]
        right
        have hc := (hF.rr j r).conn hW hN hkN hfl
        have hlj : lab j ≠ -1 := by
          cases hF.rr j r with
          | refl => exact hl1
          | step _ _ h _ => exact h
        refine ⟨rfl, ?_, hck.trans hc.2⟩
        rcases ih.k1 j hj with e | ⟨_, e, _⟩
        · rw [← e]; exact hlj
        · exact e
      · rw [if_neg r]; exact ih.k1 j hj
    · by_cases r : R k' = true
      · rw [if_pos r]; exact .inr rfl
      · rw [if_neg r]
        by_cases e : q = i
        · subst e
          rw [hk] at hk'
          obtain rfl : k = k' := by have := Option.some.inj hk'; omega
          exact absurd hF.r0 r
        · exact ih.k2 q k' (by omega) hk'

/-- A label of one of the first i neighbours of t. -/
def beside (ns : List Int) (lab : Nat → Int) (i : Nat) (l : Int) : Bool := (ns.take i).any fun x => decide (lab x.toNat = l)
theorem beside_iff {ns : List Int} {lab : Nat → Int} {i : Nat} {l : Int} : beside ns lab i l = true ↔ ∃ q x, q < i ∧ ns[q]? = some x ∧ lab x.toNat = l := by
  unfold beside
  rw [List.any_eq_true]
  constructor
  · rintro ⟨x, hx, e⟩
    obtain ⟨q, hq⟩ := List.getElem?_of_mem hx
    rw [List.getElem?_take] at hq
    split at hq
    · rename_i h
      exact ⟨q, x, h, hq, by simpa using e⟩
    · cases hq
  · rintro ⟨q, x, hq, hx, e⟩
    refine ⟨x, List.mem_of_getElem? (i := q) ?_, by simpa using e⟩
    rw [List.getElem?_take, if_pos hq]; exact hx
theorem beside_succ {ns : List Int} {lab : Nat → Int} {i k : Nat} (hk : ns[i]? = some (k : Int)) (l : Int) : beside ns lab (i + 1) l = (beside ns lab i l || decide (lab k = l)) := by
  unfold beside
  rw [List.take_add_one, hk, List.any_append]
  simp
/-- Between two rounds of join's second loop. -/
structure J2 (N t : Nat) (ns : List Int) (lab : Nat → Int) (i : Nat) (s : Int) (D : DataW Unit) : Prop where
  td : Tidy D
  hs : ∀ l : Nat, l < N → has D (.int .i64 l) = (decide (lab l = (l : Int)) && !beside ns lab i l)
  at_ : ∀ l : Nat, l < N → lab l = (l : Int) → beside ns lab i l = false → ∀ z, D.atKey (.int .i64 l) z = .lit (.int .i64 (cnt N lab l))
  sm : s = 1 + (passed (fun j => decide (lab j ≠ -1) && beside ns lab i (lab j)) N).length
  sz : size D = (passed (fun j => decide (lab j = (j : Int)) && !beside ns lab i j) N).length
theorem J2.run {W H N t i : Nat} {s : Int} {lab : Nat → Int} {fr : Nat → Bool} {D0 D : DataW Unit} (hC : Canon W N fr lab) (hS : SzOk N lab D0) (hW : 1 ≤ W) (hN : N = W * H) (hN1 : N ≤ 1024) (ht : t < N) (hft : fr t = false) (h : Sz N (nbr W N t) t (fun j => if j = t then (t : Int) else lab j) D0 i s D) : J2 N t (nbr W N t) lab i s D := by
  induction h with
  | start =>
    have hb : ∀ l, beside (nbr W N t) lab 0 l = false := fun l => by simp [beside]
    refine ⟨hS.td, fun l hl => by rw [hS.hs l hl, hb]; simp, fun l hl hl2 _ z => hS.at_ l hl hl2 z, ?_, ?_⟩
    · rw [show (passed (fun j => decide (lab j ≠ -1) && beside (nbr W N t) lab 0 (lab j)) N) = [] from passed_none (fun j hj => by simp [hb])]; rfl
    · rw [hS.sz]
      exact plen_congr fun j hj => by simp [hb]
  | @skip i k s D _ hk hkN hl ih =>
    have hkt : k ≠ t := fun e => by
      have := List.mem_of_getElem? hk
      rw [nbr_iff] at this
      omega
    simp only [if_neg hkt] at hl
    -- nothing new is beside it
    have hb : ∀ l : Int, l ≠ -1 → beside (nbr W N t) lab (i + 1) l = beside (nbr W N t) lab i l := fun l hne => by
      rw [beside_succ hk]
      by_cases e : lab k = l
      · subst e
        have hlt : lab k ≠ t := fun e => by
          obtain ⟨m, e2, _, _, e3, _⟩ := hC.self hW hN hkN hne
          obtain rfl : m = t := by omega
          rw [hC.nf _ ht hft] at e3
          omega
        rcases hl with hl | hl | hl
        · exact absurd hl hne
        · exact absurd hl hlt
        · obtain ⟨m, e2, _, hmN, e3, _⟩ := hC.self hW hN hkN hne
          rw [e2, ih.hs m hmN] at hl
          rw [e2]
          simp [e3] at hl
          simp [hl]
      · simp [e]
    refine ⟨ih.td, fun l hl => by rw [ih.hs l hl, hb _ (by omega)], fun l hl hl2 hl3 z => ih.at_ l hl hl2 (by rw [← hb _ (by omega)]; exact hl3) z, ?_, ?_⟩
    · rw [ih.sm]
      congr 2
      refine plen_congr fun j hj => ?_
      by_cases e : lab j = -1
      · simp [e]
      · rw [hb _ e]
    · rw [ih.sz]
      exact plen_congr fun j hj => by rw [hb _ (by omega)]
  | @take i k s c D _ hk hkN hl1 hl2 hh hc ih =>
    have hkt : k ≠ t := fun e => by
      have := List.mem_of_getElem? hk
      rw [nbr_iff] at this
      omega
    simp only [if_neg hkt] at hl1 hl2 hh hc ⊢
    obtain ⟨m, e2, _, hmN, e3, _⟩ := hC.self hW hN hkN hl1
    rw [e2] at hh hc ⊢
    have hbm : beside (nbr W N t) lab i (m : Int) = false := by
      have := ih.hs m hmN
      rw [hh] at this
      simpa [e3] using this.symm
    have hcc : c = cnt N lab m := by
      have := (ih.at_ m hmN e3 hbm _).symm.trans hc
      injection this with this
      injection this with _ this
      exact this.symm
    have hb : ∀ l : Int, beside (nbr W N t) lab (i + 1) l = (beside (nbr W N t) lab i l || decide ((m : Int) = l)) := fun l => by rw [beside_succ hk, e2]
    refine ⟨ih.td.del _, fun l hl => ?_, fun l hl hl2 hl3 z => ?_, ?_, ?_⟩
    · by_cases e : l = m
      · subst e; rw [has_del_same, hb]; simp
      · have e' : (m : Int) ≠ l := by omega
        rw [has_del_other (key_ne e), ih.hs l hl, hb]; simp [e']
    · rw [hb] at hl3
      have e : l ≠ m := fun e => by subst e; simp at hl3
      rw [atKey_del_other (key_ne e)]
      exact ih.at_ l hl hl2 (by simp at hl3; exact hl3.1) z
    · have hle := passed_le (fun j => decide (lab j ≠ -1) && beside (nbr W N t) lab i (lab j)) N
      have hle2 := passed_le (fun j => decide (lab j = (m : Int))) N
      rw [hcc, ih.sm]
      have := plen_or (f := fun j => decide (lab j ≠ -1) && beside (nbr W N t) lab i (lab j)) (g := fun j => decide (lab j = (m : Int))) (N := N) fun j hj hb' => by
        simp only [Bool.and_eq_true] at hb'
        by_cases e : lab j = (m : Int)
        · rw [e, hbm] at hb'; simp at hb'
        · simp [e]
      have e4 : (passed (fun j => decide (lab j ≠ -1) && beside (nbr W N t) lab (i + 1) (lab j)) N).length = (passed (fun j => (decide (lab j ≠ -1) && beside (nbr W N t) lab i (lab j)) || decide (lab j = (m : Int))) N).length := plen_congr fun j hj => by
        rw [hb]
        by_cases e : lab j = (m : Int)
        · have : (m : Int) ≠ -1 := by omega
          simp [e, this]
        · have : ¬ (m : Int) = lab j := fun e' => e e'.symm
          simp [e, this]
      rw [e4, this]
      unfold cnt
      rw [IntWalk.wrap64_in _ (by omega)]
      push_cast
      omega
    · have hz := size_del (k := .int .i64 (m : Int)) ih.td
      rw [hh, ih.sz] at hz
      simp only [if_true] at hz
      have := passed_len_more (f := fun j => decide (lab j = (j : Int)) && !beside (nbr W N t) lab (i + 1) j) (k := m) hmN (by rw [hb]; simp)
      have e4 : (passed (fun j => decide (lab j = (j : Int)) && !beside (nbr W N t) lab i j) N).length = (passed (fun j => (decide (lab j = (j : Int)) && !beside (nbr W N t) lab (i + 1) j) || decide (j = m)) N).length := plen_congr fun j hj => by
        rw [hb]
        by_cases e : j = m
        · subst e; simp [e3, hbm]
        · have : ¬ (m : Int) = (j : Int) := by omega
          simp [e, this]
      omega

/-- A way from t leads over a neighbour of t, and then past t. -/
theorem Conn.leave {W N t j : Nat} {fr : Nat → Bool} (h : Conn W N (fun x => fr x || decide (x = t)) t j) : j = t ∨ ∃ k : Nat, (k : Int) ∈ nbr W N t ∧ fr k = true ∧ Conn W N fr k j := by
  induction h with
  | refl => exact .inl rfl
  | @step j k _ hk hf ih =>
    by_cases e : k = t
    · exact .inl e
    right
    have hfk : fr k = true := by simpa [e] using hf
    rcases ih with rfl | ⟨k', h1, h2, h3⟩
    · exact ⟨k, hk, hfk, .refl⟩
    · exact ⟨k', h1, h2, .step h3 hk hfk⟩
/-- Join keeps the labels least, and the sizes right. -/
theorem JoinStep.canon {W H N t : Nat} {fr : Nat → Bool} {lab lab2 : Nat → Int} {D D2 : DataW Unit} (h : JoinStep W N t lab D lab2 D2) (hW : 1 ≤ W) (hN : N = W * H) (hN1 : N ≤ 1024) (ht : t < N) (hC : Canon W N fr lab) (hS : SzOk N lab D) (hft : fr t = false) :
    Canon W N (fun x => fr x || decide (x = t)) lab2 ∧ SzOk N lab2 D2 := by
  obtain ⟨m, s, D1, hL, hz, rfl, hJ⟩ := h
  obtain ⟨hmt, hmk, hme⟩ := hL.facts
  have h2 := J2.run hC hS hW hN hN1 ht hft hz
  have hlt : lab t = -1 := hC.nf t ht hft
  obtain ⟨lab0, hlab0⟩ : ∃ lab0 : Nat → Int, lab0 = fun j => if j = t then (t : Int) else lab j := ⟨_, rfl⟩
  have hl0t : lab0 t = t := by rw [hlab0]; simp
  have hl0 : ∀ j, j ≠ t → lab0 j = lab j := fun j hj => by rw [hlab0]; simp [hj]
  have hf0 : ∀ j, j < N → lab0 j ≠ -1 → (fr j || decide (j = t)) = true := fun j hj hne => by
    by_cases e : j = t
    · simp [e]
    · rw [hl0 j e] at hne
      simp [hC.fr_of hj hne]
  have hns : ∀ k : Nat, (k : Int) ∈ nbr W N t ++ [(t : Int)] → k = t ∨ (k : Int) ∈ nbr W N t := fun k hk => by
    rcases List.mem_append.1 hk with e | e
    · exact .inr e
    · left; simp at e; omega
  have hu0 : UniBut W N t lab0 := fun j k hj hk ej ek h1 h3 => by
    rw [hl0 j ej] at h1 ⊢
    rw [hl0 k ek] at h3 ⊢
    exact hC.u j k hj hk h1 h3
  rw [← hlab0] at hJ
  have h3 := J3.run (fr' := fun x => fr x || decide (x = t)) hJ hW hN hf0 hns hu0
  -- t and its free neighbours bear m
  have hmem : ∀ k : Nat, (k : Int) ∈ nbr W N t ++ [(t : Int)] → lab2 k = -1 ∨ lab2 k = m := fun k hk => by
    obtain ⟨q, hq⟩ := List.getElem?_of_mem hk
    refine h3.k2 q k ?_ hq
    rw [List.getElem?_eq_some_iff] at hq
    exact hq.1
  have hmn : m ≠ -1 := by
    rcases hme with e | ⟨k, _, e, e'⟩
    · omega
    · rw [e']; exact e
  have ht2 : lab2 t = m := by
    rcases h3.k1 t ht with e | ⟨e, _⟩
    · rcases hmem t (by simp) with e' | e'
      · rw [e, hl0t] at e'; omega
      · exact e'
    · exact e
  have hne2 : ∀ j, j < N → (fr j || decide (j = t)) = true → lab2 j ≠ -1 := fun j hj hf => by
    rcases h3.k1 j hj with e | ⟨e, _⟩
    · rw [e]
      by_cases ejt : j = t
      · subst ejt; rw [hl0t]; omega
      · rw [hl0 j ejt]
        exact hC.ne j hj (by simpa [ejt] using hf)
    · rw [e]; exact hmn
  have hnb : ∀ k : Nat, (k : Int) ∈ nbr W N t → lab2 k ≠ -1 → lab2 k = m := fun k hk hne => (hmem k (by simp [hk])).resolve_left hne
  have hu : Uni W N lab2 := fun j k hj hk h1 h4 => by
    by_cases ej : j = t
    · subst ej
      rw [ht2, hnb k hk h4]
    · by_cases ek : k = t
      · subst ek
        rw [ht2, hnb j (nbr_symm hW hj hk) h1]
      · exact h3.u j k hj hk ej ek h1 h4
  have hft' : (fr t || decide (t = t)) = true := by simp
  -- the least tile, and the way to it
  obtain ⟨m', hm', hm't, hfm', hcm'⟩ : ∃ m' : Nat, m = m' ∧ m' ≤ t ∧ (fr m' || decide (m' = t)) = true ∧ Conn W N (fun x => fr x || decide (x = t)) m' t := by
    rcases hme with e | ⟨k, hk, hne, e⟩
    · exact ⟨t, e, Nat.le_refl _, by simp, .refl⟩
    · have hkN := nbr_lt hW hN ht hk
      obtain ⟨m', e2, e3, e4, e5, e6, e7⟩ := hC.self hW hN hkN hne
      exact ⟨m', by rw [e, e2], by omega, by simp [e6], .step (e7.mono fun x hx => by simp [hx]) (nbr_symm hW ht hk) hft'⟩
  subst hm'
  have hm'N : m' < N := by omega
  have hcan : Canon W N (fun x => fr x || decide (x = t)) lab2 := by
    refine ⟨fun j hj hf => ?_, fun j hj hf => ?_, hu⟩
    · have hf' : fr j = false ∧ j ≠ t := by simpa using hf
      have h0 : lab0 j = -1 := by rw [hl0 j hf'.2]; exact hC.nf j hj hf'.1
      rcases h3.k1 j hj with e | ⟨_, e, _⟩
      · rw [e, h0]
      · exact absurd h0 e
    · have hmain : Conn W N (fun x => fr x || decide (x = t)) t j → m' ≤ j := fun hc => by
        rcases hc.leave with e | ⟨k, hk, hfk, hck⟩
        · omega
        · have hkN := nbr_lt hW hN ht hk
          have hlk := hC.ne k hkN hfk
          have e := hck.lab hW hN hkN hfk hC.u hC.ne
          obtain ⟨m2, e2, e3, _⟩ := hC.self hW hN hj (by rw [e]; exact hlk)
          obtain ⟨q, hq⟩ := List.getElem?_of_mem hk
          have := hmk q k (by rw [List.getElem?_eq_some_iff] at hq; exact hq.1) hq hlk
          omega
      rcases h3.k1 j hj with e | ⟨e, _, hc⟩
      · by_cases ejt : j = t
        · subst ejt
          exact ⟨m', ht2, hm't, hfm', hcm'⟩
        · obtain ⟨m2, e2, e3, e4, e5, e6, e7⟩ := hC.self hW hN hj (hC.ne j hj (by simpa [ejt] using hf))
          exact ⟨m2, by rw [e, hl0 j ejt, e2], e3, by simp [e6], e7.mono fun x hx => by simp [hx]⟩
      · exact ⟨m', e, hmain hc, hfm', hcm'.trans hc⟩
  -- the labels in closed form
  have hbe : ∀ l : Int, beside (nbr W N t) lab (nbr W N t).length l = true ↔ ∃ k : Nat, (k : Int) ∈ nbr W N t ∧ lab k = l := fun l => by
    rw [beside_iff]
    constructor
    · rintro ⟨q, x, hq, hx, e⟩
      obtain ⟨k, rfl, _⟩ := nbr_mem hW hN ht (List.mem_of_getElem? hx)
      exact ⟨k, List.mem_of_getElem? hx, by simpa using e⟩
    · rintro ⟨k, hk, e⟩
      obtain ⟨q, hq⟩ := List.getElem?_of_mem hk
      exact ⟨q, k, by rw [List.getElem?_eq_some_iff] at hq; exact hq.1, hq, by simpa using e⟩
  have hin : ∀ j, j < N → lab j ≠ -1 → beside (nbr W N t) lab (nbr W N t).length (lab j) = true → lab2 j = m' := fun j hj hne hb => by
    obtain ⟨k, hk, e⟩ := (hbe _).1 hb
    have hkN := nbr_lt hW hN ht hk
    obtain ⟨m2, e2, _, e4, _, e6, e7⟩ := hC.self hW hN hj hne
    obtain ⟨m3, f2, _, f4, _, f6, f7⟩ := hC.self hW hN hkN (by rw [e]; exact hne)
    obtain rfl : m3 = m2 := by omega
    have hfk := hC.fr_of hkN (show lab k ≠ -1 by rw [e]; exact hne)
    have hckj : Conn W N (fun x => fr x || decide (x = t)) k j := ((f7.symm hW hN f4 f6).trans e7).mono fun x hx => by simp [hx]
    rw [hckj.lab hW hN hkN (by simp [hfk]) hu hne2]
    exact hnb k hk (hne2 k hkN (by simp [hfk]))
  have hout : ∀ j, j < N → j ≠ t → lab j ≠ -1 → beside (nbr W N t) lab (nbr W N t).length (lab j) = false → lab2 j = lab j := fun j hj ejt hne hb => by
    rcases h3.k1 j hj with e | ⟨_, _, hc⟩
    · rw [e, hl0 j ejt]
    · exfalso
      rcases hc.leave with e | ⟨k, hk, hfk, hck⟩
      · exact ejt e
      · have hkN := nbr_lt hW hN ht hk
        have e := hck.lab hW hN hkN hfk hC.u hC.ne
        have := (hbe (lab j)).2 ⟨k, hk, e.symm⟩
        rw [hb] at this
        cases this
  have hnone : ∀ j, j < N → j ≠ t → lab j = -1 → lab2 j = -1 := fun j hj ejt e => by
    rcases h3.k1 j hj with e' | ⟨_, e', _⟩
    · rw [e', hl0 j ejt, e]
    · rw [hl0 j ejt] at e'; exact absurd e e'
  -- m' was no label, or lay beside t
  have hm0 : (decide (lab m' = (m' : Int)) && !beside (nbr W N t) lab (nbr W N t).length m') = false := by
    rcases hme with e | ⟨k, hk, hne, e⟩
    · obtain rfl : m' = t := by omega
      rw [hlt]
      have : ¬ (-1 : Int) = (m' : Int) := by omega
      simp [this]
    · have := (hbe (m' : Int)).2 ⟨k, hk, e.symm⟩
      simp [this]
  have hiff : ∀ l : Nat, l < N → l ≠ m' → (lab2 l = l ↔ (lab l = l ∧ beside (nbr W N t) lab (nbr W N t).length l = false)) := fun l hl hlm => by
    clear hme
    by_cases elt : l = t
    · subst elt
      rw [ht2, hlt]
      constructor
      · intro e; omega
      · rintro ⟨e, _⟩; omega
    · by_cases e1 : lab l = -1
      · rw [hnone l hl elt e1, e1]
        constructor
        · intro e; omega
        · rintro ⟨e, _⟩; omega
      · cases hb : beside (nbr W N t) lab (nbr W N t).length (lab l)
        · rw [hout l hl elt e1 hb]
          constructor
          · intro e; rw [e] at hb; exact ⟨e, hb⟩
          · rintro ⟨e, _⟩; exact e
        · rw [hin l hl e1 hb]
          constructor
          · intro e; omega
          · rintro ⟨e, e'⟩; rw [e, e'] at hb; cases hb
  refine ⟨hcan, h2.td.put (key_lit _) _, fun l hl => ?_, fun l hl hl2 z => ?_, ?_⟩
  · by_cases e : l = m'
    · subst e
      rw [has_put_same h2.td.isMap (key_lit _)]
      obtain ⟨m2, e2, e3, e4, e5, _⟩ := hcan.self hW hN ht (by rw [ht2]; omega)
      rw [ht2] at e2
      obtain rfl : m2 = l := by omega
      simp [e5]
    · rw [has_put_other (key_ne e), h2.hs l hl]
      rw [Bool.eq_iff_iff]
      simp only [decide_eq_true_eq, Bool.and_eq_true, Bool.not_eq_true']
      exact (hiff l hl e).symm
  · by_cases e : l = m'
    · subst e
      rw [atKey_put_same h2.td.isMap (key_lit _), h2.sm]
      have := passed_len_more (f := fun j => decide (lab j ≠ -1) && beside (nbr W N t) lab (nbr W N t).length (lab j)) (k := t) ht (by simp [hlt])
      have e4 : cnt N lab2 l = (passed (fun j => (decide (lab j ≠ -1) && beside (nbr W N t) lab (nbr W N t).length (lab j)) || decide (j = t)) N).length := plen_congr fun j hj => by
        by_cases ejt : j = t
        · subst ejt; simp [ht2]
        · by_cases e1 : lab j = -1
          · rw [hnone j hj ejt e1]
            have : ¬ (-1 : Int) = (l : Int) := by omega
            simp [e1, ejt, this]
          · cases hb : beside (nbr W N t) lab (nbr W N t).length (lab j)
            · rw [hout j hj ejt e1 hb]
              have : lab j ≠ (l : Int) := fun e' => by
                rcases hme with e6 | ⟨k, hk, hne, e6⟩
                · obtain rfl : l = t := by omega
                  obtain ⟨m2, f2, _, _, f5, _⟩ := hC.self hW hN hj e1
                  obtain rfl : m2 = l := by omega
                  omega
                · have := (hbe (lab j)).2 ⟨k, hk, by rw [e', e6]⟩
                  rw [hb] at this; cases this
              simp [this, e1, ejt]
            · rw [hin j hj e1 hb]
              simp [e1]
      rw [e4, this]
      push_cast
      rw [Int.add_comm]
    · rw [atKey_put_other (key_ne e)]
      obtain ⟨hl3, hl4⟩ := (hiff l hl e).1 hl2
      rw [h2.at_ l hl hl3 hl4 z]
      have : cnt N lab l = cnt N lab2 l := plen_congr fun j hj => by
        rw [decide_eq_decide]
        by_cases ejt : j = t
        · subst ejt
          rw [hlt, ht2]; constructor <;> intro e' <;> omega
        · by_cases e1 : lab j = -1
          · rw [hnone j hj ejt e1, e1]
          · cases hb : beside (nbr W N t) lab (nbr W N t).length (lab j)
            · rw [hout j hj ejt e1 hb]
            · rw [hin j hj e1 hb]
              constructor
              · intro e'; rw [e', hl4] at hb; cases hb
              · intro e'; omega
      rw [this]
  · rw [size_put h2.td, h2.hs m' hm'N, hm0, h2.sz]
    simp only [Bool.false_eq_true, if_false]
    have := passed_len_more (f := fun j => decide (lab j = (j : Int)) && !beside (nbr W N t) lab (nbr W N t).length j) (k := m') hm'N hm0
    unfold many
    rw [← this]
    refine plen_congr fun j hj => ?_
    by_cases e : j = m'
    · subst e
      obtain ⟨m2, e2, e3, e4, e5, _⟩ := hcan.self hW hN ht (by rw [ht2]; omega)
      rw [ht2] at e2
      obtain rfl : m2 = j := by omega
      simp [e5]
    · have := hiff j hj e
      rw [Bool.eq_iff_iff]
      simp only [decide_eq_true_eq, Bool.or_eq_true, Bool.and_eq_true, Bool.not_eq_true', e, or_false]
      exact this.symm
end Go.Proofs.YtbgbfljbjpbinaaDoor

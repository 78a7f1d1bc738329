/- The plain law of join: each free tile bears the least tile that hangs together with it, and the map holds the sizes. No program in sight. -/
import Derived.Test.YtbgbfljbjpbinaaDoorReg15
namespace Go.Proofs.YtbgbfljbjpbinaaDoor
set_option linter.unusedSimpArgs false
set_option linter.unusedVariables false
open Go.RowKit Go.Maps

theorem Lst.facts {ns : List Int} {lab : Nat → Int} {t m : Int} {i : Nat} (h : Lst ns lab t i m) :
    m ≤ t ∧ (∀ q k : Nat, q < i → ns[q]? = some (k : Int) → lab k ≠ -1 → m ≤ lab k) ∧ (m = t ∨ ∃ k : Nat, (k : Int) ∈ ns ∧ lab k ≠ -1 ∧ m = lab k) := by
  induction h with
  | start => exact ⟨by omega, fun q k hq => by omega, .inl rfl⟩
  | @skip i k m _ hk hl ih =>
    refine ⟨ih.1, fun q k' hq hk' hne => ?_, ih.2.2⟩
    by_cases e : q = i
    · subst e
      rw [hk] at hk'
      obtain rfl : k = k' := by have := Option.some.inj hk'; omega
      exact absurd hl hne
    · exact ih.2.1 q k' (by omega) hk' hne
  | @take i k m _ hk hl ih =>
    refine ⟨by split <;> omega, fun q k' hq hk' hne => ?_, ?_⟩
    · by_cases e : q = i
      · subst e
        rw [hk] at hk'
        obtain rfl : k = k' := by have := Option.some.inj hk'; omega
        split <;> omega
      · have := ih.2.1 q k' (by omega) hk' hne
        split <;> omega
    · split
      · exact .inr ⟨k, List.mem_of_getElem? hk, hl, rfl⟩
      · exact ih.2.2

/-- Free neighbours other than t bear one label. -/
def UniBut (W N t : Nat) (lab : Nat → Int) : Prop := ∀ j k : Nat, j < N → (k : Int) ∈ nbr W N j → j ≠ t → k ≠ t → lab j ≠ -1 → lab k ≠ -1 → lab j = lab k
theorem UniBut.fill {W H N t k n : Nat} {label : Int} {lab : Nat → Int} {R : Nat → Bool} (h : UniBut W N t lab) (hW : 1 ≤ W) (hN : N = W * H) (hF : FillAt W N k label lab R [] n) : UniBut W N t (fun j => if R j = true then label else lab j) := by
  intro j k hj hk ej ek h1 h2
  have hkN := nbr_lt hW hN hj hk
  dsimp only at h1 h2 ⊢
  by_cases rj : R j = true
  · by_cases rk : R k = true
    · rw [if_pos rj, if_pos rk]
    · rw [if_neg rk] at h2
      rw [if_pos rj, if_neg rk]
      rcases hF.cl j rj (by simp) k hk with e | e | e
      · exact absurd e h2
      · exact e.symm
      · exact absurd e rk
  · by_cases rk : R k = true
    · rw [if_neg rj] at h1
      rw [if_neg rj, if_pos rk]
      rcases hF.cl k rk (by simp) j (nbr_symm hW hj hk) with e | e | e
      · exact absurd e h1
      · exact e
      · exact absurd e rj
    · rw [if_neg rj] at h1
      rw [if_neg rk] at h2
      rw [if_neg rj, if_neg rk]
      exact h j k hj hk ej ek h1 h2
/-- Between two rounds of join's third loop. -/
structure J3 (W N t : Nat) (m : Int) (fr' : Nat → Bool) (lab0 : Nat → Int) (ns : List Int) (i : Nat) (lab : Nat → Int) : Prop where
  k1 : ∀ j, j < N → lab j = lab0 j ∨ (lab j = m ∧ lab0 j ≠ -1 ∧ Conn W N fr' t j)
  k2 : ∀ q k : Nat, q < i → ns[q]? = some (k : Int) → lab k = -1 ∨ lab k = m
  u : UniBut W N t lab
theorem J3.run {W H N t i : Nat} {m : Int} {fr' : Nat → Bool} {lab0 lab : Nat → Int} {ns : List Int} (h : Jn W N m ns lab0 i lab) (hW : 1 ≤ W) (hN : N = W * H) (hf0 : ∀ j, j < N → lab0 j ≠ -1 → fr' j = true) (hns : ∀ k : Nat, (k : Int) ∈ ns → k = t ∨ (k : Int) ∈ nbr W N t) (h0 : UniBut W N t lab0) : J3 W N t m fr' lab0 ns i lab := by
  induction h with
  | start => exact ⟨fun j _ => .inl rfl, fun q k hq => by omega, h0⟩
  | @skip i k lab _ hk hkN hl ih =>
    refine ⟨ih.k1, fun q k' hq hk' => ?_, ih.u⟩
    by_cases e : q = i
    · subst e
      rw [hk] at hk'
      obtain rfl : k = k' := by have := Option.some.inj hk'; omega
      exact hl
    · exact ih.k2 q k' (by omega) hk'
  | @fill i k lab R _ hk hkN hl1 hl2 hF ih =>
    have hfl : ∀ j, j < N → lab j ≠ -1 → fr' j = true := fun j hj hne => by
      rcases ih.k1 j hj with e | ⟨_, e, _⟩
      · exact hf0 j hj (by rw [← e]; exact hne)
      · exact hf0 j hj e
    have hck : Conn W N fr' t k := by
      rcases hns k (List.mem_of_getElem? hk) with rfl | e
      · exact .refl
      · exact .step .refl e (hfl k hkN hl1)
    refine ⟨fun j hj => ?_, fun q k' hq hk' => ?_, ih.u.fill hW hN hF⟩
    · by_cases r : R j = true
      · rw [if_pos r]
        right
        have hc := (hF.rr j r).conn hW hN hkN hfl
        have hlj : lab j ≠ -1 := by
          cases hF.rr j r with
          | refl => exact hl1
          | step _ _ h _ => exact h
        refine ⟨rfl, ?_, hck.trans hc.2⟩
        rcases ih.k1 j hj with e | ⟨_, e, _⟩
        · rw [← e]; exact hlj
        · exact e
      · rw [if_neg r]; exact ih.k1 j hj
    · by_cases r : R k' = true
      · rw [if_pos r]; exact .inr rfl
      · rw [if_neg r]
        by_cases e : q = i
        · subst e
          rw [hk] at hk'
          obtain rfl : k = k' := by have := Option.some.inj hk'; omega
          exact absurd hF.r0 r
        · exact ih.k2 q k' (by omega) hk'

/-- A label of one of the first i neighbours of t. -/
def beside (ns : List Int) (lab : Nat → Int) (i : Nat) (l : Int) : Bool := (ns.take i).any fun x => decide (lab x.toNat = l)
theorem beside_iff {ns : List Int} {lab : Nat → Int} {i : Nat} {l : Int} : beside ns lab i l = true ↔ ∃ q x, q < i ∧ ns[q]? = some x ∧ lab x.toNat = l := by
  unfold beside
  rw [List.any_eq_true]
  constructor
  · rintro ⟨x, hx, e⟩
    obtain ⟨q, hq⟩ := List.getElem?_of_mem hx
    rw [List.getElem?_take] at hq
    split at hq
    · rename_i h
      exact ⟨q, x, h, hq, by simpa using e⟩
    · cases hq
  · rintro ⟨q, x, hq, hx, e⟩
    refine ⟨x, List.mem_of_getElem? (i := q) ?_, by simpa using e⟩
    rw [List.getElem?_take, if_pos hq]; exact hx
theorem beside_succ {ns : List Int} {lab : Nat → Int} {i k : Nat} (hk : ns[i]? = some (k : Int)) (l : Int) : beside ns lab (i + 1) l = (beside ns lab i l || decide (lab k = l)) := by
  unfold beside
  rw [List.take_add_one, hk, List.any_append]
  simp
/-- Between two rounds of join's second loop. -/
structure J2 (N t : Nat) (ns : List Int) (lab : Nat → Int) (i : Nat) (s : Int) (D : DataW Unit) : Prop where
  td : Tidy D
  hs : ∀ l : Nat, l < N → has D (.int .i64 l) = (decide (lab l = (l : Int)) && !beside ns lab i l)
  at_ : ∀ l : Nat, l < N → lab l = (l : Int) → beside ns lab i l = false → ∀ z, D.atKey (.int .i64 l) z = .lit (.int .i64 (cnt N lab l))
  sm : s = 1 + (passed (fun j => decide (lab j ≠ -1) && beside ns lab i (lab j)) N).length
  sz : size D = (passed (fun j => decide (lab j = (j : Int)) && !beside ns lab i j) N).length
theorem J2.run {W H N t i : Nat} {s : Int} {lab : Nat → Int} {fr : Nat → Bool} {D0 D : DataW Unit} (hC : Canon W N fr lab) (hS : SzOk N lab D0) (hW : 1 ≤ W) (hN : N = W * H) (hN1 : N ≤ 1024) (ht : t < N) (hft : fr t = false) (h : Sz N (nbr W N t) t (fun j => if j = t then (t : Int) else lab j) D0 i s D) : J2 N t (nbr W N t) lab i s D := by
  induction h with
  | start =>
    have hb : ∀ l, beside (nbr W N t) lab 0 l = false := fun l => by simp [beside]
    refine ⟨hS.td, fun l hl => by rw [hS.hs l hl, hb]; simp, fun l hl hl2 _ z => hS.at_ l hl hl2 z, ?_, ?_⟩
    · rw [show (passed (fun j => decide (lab j ≠ -1) && beside (nbr W N t) lab 0 (lab j)) N) = [] from passed_none (fun j hj => by simp [hb])]; rfl
    · rw [hS.sz]
      exact plen_congr fun j hj => by simp [hb]
  | @skip i k s D _ hk hkN hl ih =>
    have hkt : k ≠ t := fun e => by
      have := List.mem_of_getElem? hk
      rw [nbr_iff] at this
      omega
    simp only [if_neg hkt] at hl
    -- nothing new is beside it
    have hb : ∀ l : Int, l ≠ -1 → beside (nbr W N t) lab (i + 1) l = beside (nbr W N t) lab i l := fun l hne => by
      rw [beside_succ hk]
      by_cases e : lab k = l
      · subst e
        have hlt : lab k ≠ t := fun e => by
          obtain ⟨m, e2, _, _, e3, _⟩ := hC.self hW hN hkN hne
          obtain rfl : m = t := by omega
          rw [hC.nf _ ht hft] at e3
          omega
        rcases hl with hl | hl | hl
        · exact absurd hl hne
        · exact absurd hl hlt
        · obtain ⟨m, e2, _, hmN, e3, _⟩ := hC.self hW hN hkN hne
          rw [e2, ih.hs m hmN] at hl
          rw [e2]
          simp [e3] at hl
          simp [hl]
      · simp [e]
    refine ⟨ih.td, fun l hl => by rw [ih.hs l hl, hb _ (by omega)], fun l hl hl2 hl3 z => ih.at_ l hl hl2 (by rw [← hb _ (by omega)]; exact hl3) z, ?_, ?_⟩
    · rw [ih.sm]
      congr 2
      refine plen_congr fun j hj => ?_
      by_cases e : lab j = -1
      · simp [e]
      · rw [hb _ e]
    · rw [ih.sz]
      exact plen_congr fun j hj => by rw [hb _ (by omega)]
  | @take i k s c D _ hk hkN hl1 hl2 hh hc ih =>
    have hkt : k ≠ t := fun e => by
      have := List.mem_of_getElem? hk
      rw [nbr_iff] at this
      omega
    simp only [if_neg hkt] at hl1 hl2 hh hc ⊢
    obtain ⟨m, e2, _, hmN, e3, _⟩ := hC.self hW hN hkN hl1
    rw [e2] at hh hc ⊢
    have hbm : beside (nbr W N t) lab i (m : Int) = false := by
      have := ih.hs m hmN
      rw [hh] at this
      simpa [e3] using this.symm
    have hcc : c = cnt N lab m := by
      have := (ih.at_ m hmN e3 hbm _).symm.trans hc
      injection this with this
      injection this with _ this
      exact this.symm
    have hb : ∀ l : Int, beside (nbr W N t) lab (i + 1) l = (beside (nbr W N t) lab i l || decide ((m : Int) = l)) := fun l => by rw [beside_succ hk, e2]
    refine ⟨ih.td.del _, fun l hl => ?_, fun l hl hl2 hl3 z => ?_, ?_, ?_⟩
    · by_cases e : l = m
      · subst e; rw [has_del_same, hb]; simp
      · have e' : (m : Int) ≠ l := by omega
        rw [has_del_other (key_ne e), ih.hs l hl, hb]; simp [e']
    · rw [hb] at hl3
      have e : l ≠ m := fun e => by subst e; simp at hl3
      rw [atKey_del_other (key_ne e)]
      exact ih.at_ l hl hl2 (by simp at hl3; exact hl3.1) z
    · have hle := passed_le (fun j => decide (lab j ≠ -1) && beside (nbr W N t) lab i (lab j)) N
      have hle2 := passed_le (fun j => decide (lab j = (m : Int))) N
      rw [hcc, ih.sm]
      have := plen_or (f := fun j => decide (lab j ≠ -1) && beside (nbr W N t) lab i (lab j)) (g := fun j => decide (lab j = (m : Int))) (N := N) fun j hj hb' => by
        simp only [Bool.and_eq_true] at hb'
        by_cases e : lab j = (m : Int)
        · rw [e, hbm] at hb'; simp at hb'
        · simp [e]
      have e4 : (passed (fun j => decide (lab j ≠ -1) && beside (nbr W N t) lab (i + 1) (lab j)) N).length = (passed (fun j => (decide (lab j ≠ -1) && beside (nbr W N t) lab i (lab j)) || decide (lab j = (m : Int))) N).length := plen_congr fun j hj => by
        rw [hb]
        by_cases e : lab j = (m : Int)
        · have : (m : Int) ≠ -1 := by omega
          simp [e, this]
        · have : ¬ (m : Int) = lab j := fun e' => e e'.symm
          simp [e, this]
      rw [e4, this]
      unfold cnt
      rw [IntWalk.wrap64_in _ (by omega)]
      push_cast
      omega
    · have hz := size_del (k := .int .i64 (m : Int)) ih.td
      rw [hh, ih.sz] at hz
      simp only [if_true] at hz
      have := passed_len_more (f := fun j => decide (lab j = (j : Int)) && !beside (nbr W N t) lab (i + 1) j) (k := m) hmN (by rw [hb]; simp)
      have e4 : (passed (fun j => decide (lab j = (j : Int)) && !beside (nbr W N t) lab i j) N).length = (passed (fun j => (decide (lab j = (j : Int)) && !beside (nbr W N t) lab (i + 1) j) || decide (j = m)) N).length := plen_congr fun j hj => by
        rw [hb]
        by_cases e : j = m
        · subst e; simp [e3, hbm]
        · have : ¬ (m : Int) = (j : Int) := by omega
          simp [e, this]
      omega

/-- A way from t leads over a neighbour of t, and then past t. -/
theorem Conn.leave {W N t j : Nat} {fr : Nat → Bool} (h : Conn W N (fun x => fr x || decide (x = t)) t j) : j = t ∨ ∃ k : Nat, (k : Int) ∈ nbr W N t ∧ fr k = true ∧ Conn W N fr k j := by
  induction h with
  | refl => exact .inl rfl
  | @step j k _ hk hf ih =>
    by_cases e : k = t
    · exact .inl e
    right
    have hfk : fr k = true := by simpa [e] using hf
    rcases ih with rfl | ⟨k', h1, h2, h3⟩
    · exact ⟨k, hk, hfk, .refl⟩
    · exact ⟨k', h1, h2, .step h3 hk hfk⟩
/-- Join keeps the labels least, and the sizes right. -/
theorem JoinStep.canon {W H N t : Nat} {fr : Nat → Bool} {lab lab2 : Nat → Int} {D D2 : DataW Unit} (h : JoinStep W N t lab D lab2 D2) (hW : 1 ≤ W) (hN : N = W * H) (hN1 : N ≤ 1024) (ht : t < N) (hC : Canon W N fr lab) (hS : SzOk N lab D) (hft : fr t = false) :
    Canon W N (fun x => fr x || decide (x = t)) lab2 ∧ SzOk N lab2 D2 := by
  obtain ⟨m, s, D1, hL, hz, rfl, hJ⟩ := h
  obtain ⟨hmt, hmk, hme⟩ := hL.facts
  have h2 := J2.run hC hS hW hN hN1 ht hft hz
  have hlt : lab t = -1 := hC.nf t ht hft
  obtain ⟨lab0, hlab0⟩ : ∃ lab0 : Nat → Int, lab0 = fun j => if j = t then (t : Int) else lab j := ⟨_, rfl⟩
  have hl0t : lab0 t = t := by rw [hlab0]; simp
  have hl0 : ∀ j, j ≠ t → lab0 j = lab j := fun j hj => by rw [hlab0]; simp [hj]
  have hf0 : ∀ j, j < N → lab0 j ≠ -1 → (fr j || decide (j = t)) = true := fun j hj hne => by
    by_cases e : j = t
    · simp [e]
    · rw [hl0 j e] at hne
      simp [hC.fr_of hj hne]
  have hns : ∀ k : Nat, (k : Int) ∈ nbr W N t ++ [(t : Int)] → k = t ∨ (k : Int) ∈ nbr W N t := fun k hk => by
    rcases List.mem_append.1 hk with e | e
    · exact .inr e
    · left; simp at e; omega
  have hu0 : UniBut W N t lab0 := fun j k hj hk ej ek h1 h3 => by
    rw [hl0 j ej] at h1 ⊢
    rw [hl0 k ek] at h3 ⊢
    exact hC.u j k hj hk h1 h3
  rw [← hlab0] at hJ
  have h3 := J3.run (fr' := fun x => fr x || decide (x = t)) hJ hW hN hf0 hns hu0
  -- t and its free neighbours bear m
  have hmem : ∀ k : Nat, (k : Int) ∈ nbr W N t ++ [(t : Int)] → lab2 k = -1 ∨ lab2 k = m := fun k hk => by
    obtain ⟨q, hq⟩ := List.getElem?_of_mem hk
    refine h3.k2 q k ?_ hq
    rw [List.getElem?_eq_some_iff] at hq
    exact hq.1
  have hmn : m ≠ -1 := by
    rcases hme with e | ⟨k, _, e, e'⟩
    · omega
    · rw [e']; exact e
  have ht2 : lab2 t = m := by
    rcases h3.k1 t ht with e | ⟨e, _⟩
    · rcases hmem t (by simp) with e' | e'
      · rw [e, hl0t] at e'; omega
      · exact e'
    · exact e
  have hne2 : ∀ j, j < N → (fr j || decide (j = t)) = true → lab2 j ≠ -1 := fun j hj hf => by
    rcases h3.k1 j hj with e | ⟨e, _⟩
    · rw [e]
      by_cases ejt : j = t
      · subst ejt; rw [hl0t]; omega
      · rw [hl0 j ejt]
        exact hC.ne j hj (by simpa [ejt] using hf)
    · rw [e]; exact hmn
  have hnb : ∀ k : Nat, (k : Int) ∈ nbr W N t → lab2 k ≠ -1 → lab2 k = m := fun k hk hne => (hmem k (by simp [hk])).resolve_left hne
  have hu : Uni W N lab2 := fun j k hj hk h1 h4 => by
    by_cases ej : j = t
    · subst ej
      rw [ht2, hnb k hk h4]
    · by_cases ek : k = t
      · subst ek
        rw [ht2, hnb j (nbr_symm hW hj hk) h1]
      · exact h3.u j k hj hk ej ek h1 h4
  have hft' : (fr t || decide (t = t)) = true := by simp
  -- the least tile, and the way to it
  obtain ⟨m', hm', hm't, hfm', hcm'⟩ : ∃ m' : Nat, m = m' ∧ m' ≤ t ∧ (fr m' || decide (m' = t)) = true ∧ Conn W N (fun x => fr x || decide (x = t)) m' t := by
    rcases hme with e | ⟨k, hk, hne, e⟩
    · exact ⟨t, e, Nat.le_refl _, by simp, .refl⟩
    · have hkN := nbr_lt hW hN ht hk
      obtain ⟨m', e2, e3, e4, e5, e6, e7⟩ := hC.self hW hN hkN hne
      exact ⟨m', by rw [e, e2], by omega, by simp [e6], .step (e7.mono fun x hx => by simp [hx]) (nbr_symm hW ht hk) hft'⟩
  subst hm'
  have hm'N : m' < N := by omega
  have hcan : Canon W N (fun x => fr x || decide (x = t)) lab2 := by
    refine ⟨fun j hj hf => ?_, fun j hj hf => ?_, hu⟩
    · have hf' : fr j = false ∧ j ≠ t := by simpa using hf
      have h0 : lab0 j = -1 := by rw [hl0 j hf'.2]; exact hC.nf j hj hf'.1
      rcases h3.k1 j hj with e | ⟨_, e, _⟩
      · rw [e, h0]
      · exact absurd h0 e
    · have hmain : Conn W N (fun x => fr x || decide (x = t)) t j → m' ≤ j := fun hc => by
        rcases hc.leave with e | ⟨k, hk, hfk, hck⟩
        · omega
        · have hkN := nbr_lt hW hN ht hk
          have hlk := hC.ne k hkN hfk
          have e := hck.lab hW hN hkN hfk hC.u hC.ne
          obtain ⟨m2, e2, e3, _⟩ := hC.self hW hN hj (by rw [e]; exact hlk)
          obtain ⟨q, hq⟩ := List.getElem?_of_mem hk
          have := hmk q k (by rw [List.getElem?_eq_some_iff] at hq; exact hq.1) hq hlk
          omega
      rcases h3.k1 j hj with e | ⟨e, _, hc⟩
      · by_cases ejt : j = t
        · subst ejt
          exact ⟨m', ht2, hm't, hfm', hcm'⟩
        · obtain ⟨m2, e2, e3, e4, e5, e6, e7⟩ := hC.self hW hN hj (hC.ne j hj (by simpa [ejt] using hf))
          exact ⟨m2, by rw [e, hl0 j ejt, e2], e3, by simp [e6], e7.mono fun x hx => by simp [hx]⟩
      · exact ⟨m', e, hmain hc, hfm', hcm'.trans hc⟩
  -- the labels in closed form
  have hbe : ∀ l : Int, beside (nbr W N t) lab (nbr W N t).length l = true ↔ ∃ k : Nat, (k : Int) ∈ nbr W N t ∧ lab k = l := fun l => by
    rw [beside_iff]
    constructor
    · rintro ⟨q, x, hq, hx, e⟩
      obtain ⟨k, rfl, _⟩ := nbr_mem hW hN ht (List.mem_of_getElem? hx)
      exact ⟨k, List.mem_of_getElem? hx, by simpa using e⟩
    · rintro ⟨k, hk, e⟩
      obtain ⟨q, hq⟩ := List.getElem?_of_mem hk
      exact ⟨q, k, by rw [List.getElem?_eq_some_iff] at hq; exact hq.1, hq, by simpa using e⟩
  have hin : ∀ j, j < N → lab j ≠ -1 → beside (nbr W N t) lab (nbr W N t).length (lab j) = true → lab2 j = m' := fun j hj hne hb => by
    obtain ⟨k, hk, e⟩ := (hbe _).1 hb
    have hkN := nbr_lt hW hN ht hk
    obtain ⟨m2, e2, _, e4, _, e6, e7⟩ := hC.self hW hN hj hne
    obtain ⟨m3, f2, _, f4, _, f6, f7⟩ := hC.self hW hN hkN (by rw [e]; exact hne)
    obtain rfl : m3 = m2 := by omega
    have hfk := hC.fr_of hkN (show lab k ≠ -1 by rw [e]; exact hne)
    have hckj : Conn W N (fun x => fr x || decide (x = t)) k j := ((f7.symm hW hN f4 f6).trans e7).mono fun x hx => by simp [hx]
    rw [hckj.lab hW hN hkN (by simp [hfk]) hu hne2]
    exact hnb k hk (hne2 k hkN (by simp [hfk]))
  have hout : ∀ j, j < N → j ≠ t → lab j ≠ -1 → beside (nbr W N t) lab (nbr W N t).length (lab j) = false → lab2 j = lab j := fun j hj ejt hne hb => by
    rcases h3.k1 j hj with e | ⟨_, _, hc⟩
    · rw [e, hl0 j ejt]
    · exfalso
      rcases hc.leave with e | ⟨k, hk, hfk, hck⟩
      · exact ejt e
      · have hkN := nbr_lt hW hN ht hk
        have e := hck.lab hW hN hkN hfk hC.u hC.ne
        have := (hbe (lab j)).2 ⟨k, hk, e.symm⟩
        rw [hb] at this
        cases this
  have hnone : ∀ j, j < N → j ≠ t → lab j = -1 → lab2 j = -1 := fun j hj ejt e => by
    rcases h3.k1 j hj with e' | ⟨_, e', _⟩
    · rw [e', hl0 j ejt, e]
    · rw [hl0 j ejt] at e'; exact absurd e e'
  -- m' was no label, or lay beside t
  have hm0 : (decide (lab m' = (m' : Int)) && !beside (nbr W N t) lab (nbr W N t).length m') = false := by
    rcases hme with e | ⟨k, hk, hne, e⟩
    · obtain rfl : m' = t := by omega
      rw [hlt]
      have : ¬ (-1 : Int) = (m' : Int) := by omega
      simp [this]
    · have := (hbe (m' : Int)).2 ⟨k, hk, e.symm⟩
      simp [this]
  have hiff : ∀ l : Nat, l < N → l ≠ m' → (lab2 l = l ↔ (lab l = l ∧ beside (nbr W N t) lab (nbr W N t).length l = false)) := fun l hl hlm => by
    clear hme
    by_cases elt : l = t
    · subst elt
      rw [ht2, hlt]
      constructor
      · intro e; omega
      · rintro ⟨e, _⟩; omega
    · by_cases e1 : lab l = -1
      · rw [hnone l hl elt e1, e1]
        constructor
        · intro e; omega
        · rintro ⟨e, _⟩; omega
      · cases hb : beside (nbr W N t) lab (nbr W N t).length (lab l)
        · rw [hout l hl elt e1 hb]
          constructor
          · intro e; rw [e] at hb; exact ⟨e, hb⟩
          · rintro ⟨e, _⟩; exact e
        · rw [hin l hl e1 hb]
          constructor
          · intro e; omega
          · rintro ⟨e, e'⟩; rw [e, e'] at hb; cases hb
  refine ⟨hcan, h2.td.put (key_lit _) _, fun l hl => ?_, fun l hl hl2 z => ?_, ?_⟩
  · by_cases e : l = m'
    · subst e
      rw [has_put_same h2.td.isMap (key_lit _)]
      obtain ⟨m2, e2, e3, e4, e5, _⟩ := hcan.self hW hN ht (by rw [ht2]; omega)
      rw [ht2] at e2
      obtain rfl : m2 = l := by omega
      simp [e5]
    · rw [has_put_other (key_ne e), h2.hs l hl]
      rw [Bool.eq_iff_iff]
      simp only [decide_eq_true_eq, Bool.and_eq_true, Bool.not_eq_true']
      exact (hiff l hl e).symm
  · by_cases e : l = m'
    · subst e
      rw [atKey_put_same h2.td.isMap (key_lit _), h2.sm]
      have := passed_len_more (f := fun j => decide (lab j ≠ -1) && beside (nbr W N t) lab (nbr W N t).length (lab j)) (k := t) ht (by simp [hlt])
      have e4 : cnt N lab2 l = (passed (fun j => (decide (lab j ≠ -1) && beside (nbr W N t) lab (nbr W N t).length (lab j)) || decide (j = t)) N).length := plen_congr fun j hj => by
        by_cases ejt : j = t
        · subst ejt; simp [ht2]
        · by_cases e1 : lab j = -1
          · rw [hnone j hj ejt e1]
            have : ¬ (-1 : Int) = (l : Int) := by omega
            simp [e1, ejt, this]
          · cases hb : beside (nbr W N t) lab (nbr W N t).length (lab j)
            · rw [hout j hj ejt e1 hb]
              have : lab j ≠ (l : Int) := fun e' => by
                rcases hme with e6 | ⟨k, hk, hne, e6⟩
                · obtain rfl : l = t := by omega
                  obtain ⟨m2, f2, _, _, f5, _⟩ := hC.self hW hN hj e1
                  obtain rfl : m2 = l := by omega
                  omega
                · have := (hbe (lab j)).2 ⟨k, hk, by rw [e', e6]⟩
                  rw [hb] at this; cases this
              simp [this, e1, ejt]
            · rw [hin j hj e1 hb]
              simp [e1]
      rw [e4, this]
      push_cast
      rw [Int.add_comm]
    · rw [atKey_put_other (key_ne e)]
      obtain ⟨hl3, hl4⟩ := (hiff l hl e).1 hl2
      rw [h2.at_ l hl hl3 hl4 z]
      have : cnt N lab l = cnt N lab2 l := plen_congr fun j hj => by
        rw [decide_eq_decide]
        by_cases ejt : j = t
        · subst ejt
          rw [hlt, ht2]; constructor <;> intro e' <;> omega
        · by_cases e1 : lab j = -1
          · rw [hnone j hj ejt e1, e1]
          · cases hb : beside (nbr W N t) lab (nbr W N t).length (lab j)
            · rw [hout j hj ejt e1 hb]
            · rw [hin j hj e1 hb]
              constructor
              · intro e'; rw [e', hl4] at hb; cases hb
              · intro e'; omega
      rw [this]
  · rw [size_put h2.td, h2.hs m' hm'N, hm0, h2.sz]
    simp only [Bool.false_eq_true, if_false]
    have := passed_len_more (f := fun j => decide (lab j = (j : Int)) && !beside (nbr W N t) lab (nbr W N t).length j) (k := m') hm'N hm0
    unfold many
    rw [← this]
    refine plen_congr fun j hj => ?_
    by_cases e : j = m'
    · subst e
      obtain ⟨m2, e2, e3, e4, e5, _⟩ := hcan.self hW hN ht (by rw [ht2]; omega)
      rw [ht2] at e2
      obtain rfl : m2 = j := by omega
      simp [e5]
    · have := hiff j hj e
      rw [Bool.eq_iff_iff]
      simp only [decide_eq_true_eq, Bool.or_eq_true, Bool.and_eq_true, Bool.not_eq_true', e, or_false]
      exact this.symm
end Go.Proofs.YtbgbfljbjpbinaaDoor

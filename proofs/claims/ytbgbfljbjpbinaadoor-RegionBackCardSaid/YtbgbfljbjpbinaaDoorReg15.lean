/- The plain law of labels: each free tile bears the least tile that hangs together with it; cut keeps that, and the sizes. No program in sight. -/
import Derived.Test.YtbgbfljbjpbinaaDoorReg13
namespace Go.Proofs.YtbgbfljbjpbinaaDoor
set_option linter.unusedSimpArgs false
set_option linter.unusedVariables false
open Go.RowKit Go.Maps

/-- A way over free tiles. -/
inductive Conn (W N : Nat) (fr : Nat → Bool) (a : Nat) : Nat → Prop
  | refl : Conn W N fr a a
  | step {j k : Nat} : Conn W N fr a j → (k : Int) ∈ nbr W N j → fr k = true → Conn W N fr a k
theorem nbr_lt {W H N j k : Nat} (hW : 1 ≤ W) (hN : N = W * H) (hj : j < N) (h : (k : Int) ∈ nbr W N j) : k < N := by
  obtain ⟨k', e, hk⟩ := nbr_mem hW hN hj h
  omega
theorem Conn.lt {W H N a j : Nat} {fr : Nat → Bool} (h : Conn W N fr a j) (hW : 1 ≤ W) (hN : N = W * H) (ha : a < N) : j < N := by
  induction h with
  | refl => exact ha
  | step _ hk _ ih => exact nbr_lt hW hN ih hk
theorem Conn.free {W N a j : Nat} {fr : Nat → Bool} (h : Conn W N fr a j) (ha : fr a = true) : fr j = true := by
  cases h with
  | refl => exact ha
  | step _ _ hf => exact hf
theorem Conn.trans {W N a b c : Nat} {fr : Nat → Bool} (h : Conn W N fr a b) (k : Conn W N fr b c) : Conn W N fr a c := by
  induction k with
  | refl => exact h
  | step _ hk hf ih => exact .step ih hk hf
theorem Conn.symm {W H N a j : Nat} {fr : Nat → Bool} (h : Conn W N fr a j) (hW : 1 ≤ W) (hN : N = W * H) (ha : a < N) (hf : fr a = true) : Conn W N fr j a := by
  induction h with
  | refl => exact .refl
  | @step j k hc hk hfk ih => exact (Conn.step .refl (nbr_symm hW (hc.lt hW hN ha) hk) (hc.free hf)).trans ih
theorem Conn.mono {W N a j : Nat} {fr fr' : Nat → Bool} (h : Conn W N fr a j) (hm : ∀ k, fr k = true → fr' k = true) : Conn W N fr' a j := by
  induction h with
  | refl => exact .refl
  | step _ hk hf ih => exact .step ih hk (hm _ hf)

/-- Each free tile bears the least tile that hangs together with it. -/
structure Canon (W N : Nat) (fr : Nat → Bool) (lab : Nat → Int) : Prop where
  nf : ∀ j, j < N → fr j = false → lab j = -1
  f : ∀ j, j < N → fr j = true → ∃ m : Nat, lab j = m ∧ m ≤ j ∧ fr m = true ∧ Conn W N fr m j
  u : Uni W N lab
theorem Conn.lab {W H N a j : Nat} {fr : Nat → Bool} {lab : Nat → Int} (h : Conn W N fr a j) (hW : 1 ≤ W) (hN : N = W * H) (ha : a < N) (hf : fr a = true) (hu : Uni W N lab) (hl : ∀ j, j < N → fr j = true → lab j ≠ -1) : lab j = lab a := by
  induction h with
  | refl => rfl
  | @step j k hc hk hfk ih =>
    have hj := hc.lt hW hN ha
    rw [← ih]
    exact (hu j k hj hk (hl j hj (hc.free hf)) (hl k (nbr_lt hW hN hj hk) hfk)).symm
theorem Canon.ne {W N : Nat} {fr : Nat → Bool} {lab : Nat → Int} (h : Canon W N fr lab) : ∀ j, j < N → fr j = true → lab j ≠ -1 := fun j hj hf => by
  obtain ⟨m, e, _⟩ := h.f j hj hf
  omega
theorem Canon.fr_of {W N : Nat} {fr : Nat → Bool} {lab : Nat → Int} (h : Canon W N fr lab) {j : Nat} (hj : j < N) (hl : lab j ≠ -1) : fr j = true := by
  cases e : fr j
  · exact absurd (h.nf j hj e) hl
  · rfl
theorem Canon.ok {W N : Nat} {fr : Nat → Bool} {lab : Nat → Int} (h : Canon W N fr lab) : LabOk N lab := fun j hj => by
  cases e : fr j
  · rw [h.nf j hj e]; omega
  · obtain ⟨m, e, hm, _⟩ := h.f j hj e
    omega
/-- A label bears itself. -/
theorem Canon.self {W H N j : Nat} {fr : Nat → Bool} {lab : Nat → Int} (h : Canon W N fr lab) (hW : 1 ≤ W) (hN : N = W * H) (hj : j < N) (hl : lab j ≠ -1) : ∃ m : Nat, lab j = m ∧ m ≤ j ∧ m < N ∧ lab m = m ∧ fr m = true ∧ Conn W N fr m j := by
  obtain ⟨m, e, hm, hf, hc⟩ := h.f j hj (h.fr_of hj hl)
  refine ⟨m, e, hm, by omega, ?_, hf, hc⟩
  rw [← hc.lab hW hN (by omega) hf h.u h.ne, e]
theorem Canon.le {W H N : Nat} {fr : Nat → Bool} {lab lab' : Nat → Int} (h : Canon W N fr lab) (h' : Canon W N fr lab') (hW : 1 ≤ W) (hN : N = W * H) {j : Nat} (hj : j < N) (hf : fr j = true) : lab j ≤ lab' j := by
  obtain ⟨m', e', hm', hf', hc'⟩ := h'.f j hj hf
  obtain ⟨m, e, hm, _⟩ := h.f m' (by omega) hf'
  rw [hc'.lab hW hN (by omega) hf' h.u h.ne, e']
  omega
theorem Canon.unique {W H N : Nat} {fr : Nat → Bool} {lab lab' : Nat → Int} (h : Canon W N fr lab) (h' : Canon W N fr lab') (hW : 1 ≤ W) (hN : N = W * H) (j : Nat) (hj : j < N) : lab j = lab' j := by
  cases hf : fr j
  · rw [h.nf j hj hf, h'.nf j hj hf]
  · have := h.le h' hW hN hj hf
    have := h'.le h hW hN hj hf
    omega
theorem Canon.congr {W N : Nat} {fr fr' : Nat → Bool} {lab : Nat → Int} (h : Canon W N fr lab) (e : ∀ j, fr j = fr' j) : Canon W N fr' lab := by
  obtain rfl : fr = fr' := funext e
  exact h

/-- How many of the first N tiles bear a label. -/
def cnt (N : Nat) (lab : Nat → Int) (l : Nat) : Nat := (passed (fun j => decide (lab j = (l : Int))) N).length
/-- How many labels there are. -/
def many (N : Nat) (lab : Nat → Int) : Nat := (passed (fun j => decide (lab j = (j : Int))) N).length
theorem plen_congr {f g : Nat → Bool} {N : Nat} (h : ∀ j, j < N → f j = g j) : (passed f N).length = (passed g N).length := by rw [passed_congr h]
theorem plen_or {f g : Nat → Bool} {N : Nat} (h : ∀ j, j < N → f j = true → g j = false) : (passed (fun j => f j || g j) N).length = (passed f N).length + (passed g N).length := by
  induction N with
  | zero => rfl
  | succ N ih =>
    have := ih fun j hj => h j (by omega)
    cases hf : f N
    · cases hg : g N
      · rw [passed_miss hf, passed_miss hg, passed_miss (f := fun j => f j || g j) (by simp [hf, hg]), this]
      · rw [passed_miss hf, passed_hit hg, passed_hit (f := fun j => f j || g j) (by simp [hf, hg])]
        simp only [List.length_append, this]; rfl
    · have hg := h N (by omega) hf
      rw [passed_hit hf, passed_miss hg, passed_hit (f := fun j => f j || g j) (by simp [hf])]
      simp only [List.length_append, this, List.length_singleton]
      omega
/-- The map holds each label's size, and nothing else. -/
structure SzOk (N : Nat) (lab : Nat → Int) (D : DataW Unit) : Prop where
  td : Tidy D
  hs : ∀ l : Nat, l < N → has D (.int .i64 l) = decide (lab l = (l : Int))
  at_ : ∀ l : Nat, l < N → lab l = (l : Int) → ∀ z, D.atKey (.int .i64 l) z = .lit (.int .i64 (cnt N lab l))
  sz : size D = many N lab
theorem SzOk.congr {N : Nat} {lab lab' : Nat → Int} {D : DataW Unit} (h : SzOk N lab D) (e : ∀ j, j < N → lab j = lab' j) : SzOk N lab' D := by
  have ec : ∀ l, cnt N lab l = cnt N lab' l := fun l => plen_congr fun j hj => by rw [e j hj]
  have em : many N lab = many N lab' := plen_congr fun j hj => by rw [e j hj]
  exact ⟨h.td, fun l hl => by rw [h.hs l hl, e l hl], fun l hl hl2 z => by rw [h.at_ l hl (by rw [e l hl]; exact hl2), ec], by rw [h.sz, em]⟩
theorem key_lit (l : Int) : WideAt.IsKeyLit (.int .i64 l) := by simp [WideAt.IsKeyLit]
theorem key_ne {a b : Nat} (h : a ≠ b) : Lit.int .i64 (a : Int) ≠ Lit.int .i64 (b : Int) := by
  intro e
  injection e with _ e
  omega

/-- What cut's first loop leaves behind. -/
theorem ph1_done {W H N i : Nat} {old : Int} {ns : List Int} {lab0 lab : Nat → Int} (h : Ph1 W N old ns lab0 i lab) (ho : old < N) (q k : Nat) (hq : q < i) (hk : ns[q]? = some (k : Int)) : lab k ≠ old := by
  induction h with
  | start => omega
  | @skip i k' lab hp hk' hkN hl ih =>
    by_cases e : q = i
    · subst e
      rw [hk'] at hk
      obtain rfl : k' = k := by have := Option.some.inj hk; omega
      exact hl
    · exact ih (by omega)
  | @fill i k' lab R hp hk' hkN hl hF ih =>
    dsimp only
    by_cases e : q = i
    · subst e
      rw [hk'] at hk
      obtain rfl : k' = k := by have := Option.some.inj hk; omega
      rw [if_pos hF.r0]; omega
    · split
      · omega
      · exact ih (by omega)

/-- Between two rounds of cut's second loop. -/
structure P2 (W N : Nat) (fr : Nat → Bool) (k : Nat) (lab : Nat → Int) (D : DataW Unit) : Prop where
  nf : ∀ j, j < N → fr j = false → lab j = -1
  f : ∀ j, j < N → fr j = true → (∃ m : Nat, lab j = m ∧ m ≤ j ∧ fr m = true ∧ Conn W N fr m j) ∨ ((N : Int) ≤ lab j ∧ k ≤ j)
  u : Uni W N lab
  s : SzOk N lab D
theorem P2.ne {W N k : Nat} {fr : Nat → Bool} {lab : Nat → Int} {D : DataW Unit} (h : P2 W N fr k lab D) : ∀ j, j < N → fr j = true → lab j ≠ -1 := fun j hj hf => by
  rcases h.f j hj hf with ⟨m, e, _⟩ | ⟨e, _⟩ <;> omega
theorem Reach.conn {W H N t j : Nat} {label : Int} {lab : Nat → Int} {fr : Nat → Bool} (h : Reach W N lab label t j) (hW : 1 ≤ W) (hN : N = W * H) (ht : t < N) (hf : ∀ j, j < N → lab j ≠ -1 → fr j = true) : j < N ∧ Conn W N fr t j := by
  induction h with
  | refl => exact ⟨ht, .refl⟩
  | @step j k _ hk h1 _ ih =>
    have := nbr_lt hW hN ih.1 hk
    exact ⟨this, .step ih.2 hk (hf k this h1)⟩
theorem P2.fill {W H N k : Nat} {fr : Nat → Bool} {lab : Nat → Int} {D : DataW Unit} {R : Nat → Bool} (h : P2 W N fr k lab D) (hW : 1 ≤ W) (hN : N = W * H) (hk : k < N) (hl : (N : Int) ≤ lab k) (hF : FillAt W N k k lab R [] (passed R N).length) :
    P2 W N fr (k + 1) (fun j => if R j = true then (k : Int) else lab j) (D.put (.int .i64 k) (.lit (.int .i64 (passed R N).length))) := by
  have hfr : ∀ j, j < N → lab j ≠ -1 → fr j = true := fun j hj hne => by
    cases e : fr j
    · exact absurd (h.nf j hj e) hne
    · rfl
  have hR : ∀ j, R j = true → j < N ∧ lab j = lab k ∧ fr j = true ∧ k ≤ j ∧ Conn W N fr k j := fun j hj => by
    have h1 := Reach.uni (hF.rr j hj) h.u hW hN hk (by omega)
    have h2 := (hF.rr j hj).conn hW hN hk hfr
    have h3 := hfr j h1.1 (by omega)
    refine ⟨h1.1, h1.2, h3, ?_, h2.2⟩
    rcases h.f j h1.1 h3 with ⟨m, e, hm, _⟩ | ⟨_, e⟩
    · omega
    · exact e
  have hRk := hF.r0
  have hfk := (hR k hRk).2.2.1
  have hno : ∀ j, j < N → lab j ≠ (k : Int) := fun j hj e => by
    rcases h.f j hj (hfr j hj (by omega)) with ⟨m, em, hm, hfm, hc⟩ | ⟨e2, _⟩
    · obtain rfl : m = k := by omega
      have := hc.lab hW hN hk hfm h.u h.ne
      omega
    · omega
  refine ⟨fun j hj hf => ?_, fun j hj hf => ?_, h.u.fill hW hN hF, ?_⟩
  · by_cases r : R j = true
    · have := (hR j r).2.2.1
      rw [this] at hf; cases hf
    · rw [if_neg r]; exact h.nf j hj hf
  · by_cases r : R j = true
    · rw [if_pos r]
      exact .inl ⟨k, rfl, (hR j r).2.2.2.1, hfk, (hR j r).2.2.2.2⟩
    · rw [if_neg r]
      rcases h.f j hj hf with hm | ⟨e, hkj⟩
      · exact .inl hm
      · refine .inr ⟨e, ?_⟩
        have : j ≠ k := fun e => r (by rw [e]; exact hRk)
        omega
  · have hiff : ∀ l : Nat, l < N → l ≠ k → ∀ j, j < N → decide ((if R j = true then (k : Int) else lab j) = (l : Int)) = decide (lab j = (l : Int)) := fun l hl hlk j hj => by
      by_cases r : R j = true
      · rw [if_pos r]
        have := (hR j r).2.1
        rw [decide_eq_decide]
        constructor <;> intro e <;> omega
      · rw [if_neg r]
    have hkk : has D (.int .i64 k) = false := by
      rw [h.s.hs k hk]
      simp [hno k hk]
    refine ⟨h.s.td.put (key_lit _) _, fun l hl => ?_, fun l hl hl2 z => ?_, ?_⟩
    · by_cases e : l = k
      · subst e
        rw [has_put_same h.s.td.isMap (key_lit _)]
        simp [hRk]
      · rw [has_put_other (key_ne e), h.s.hs l hl, ← hiff l hl e l hl]
    · by_cases e : l = k
      · subst e
        rw [atKey_put_same h.s.td.isMap (key_lit _)]
        have : (passed R N).length = cnt N (fun j => if R j = true then (l : Int) else lab j) l := plen_congr fun j hj => by
          by_cases r : R j = true
          · simp [r]
          · have := hno j hj
            simp [r, this]
        rw [this]
      · rw [atKey_put_other (key_ne e)]
        have e1 := hiff l hl e
        rw [h.s.at_ l hl (by have := e1 l hl; simp only [decide_eq_decide] at this; exact this.1 hl2) z]
        have : cnt N lab l = cnt N (fun j => if R j = true then (k : Int) else lab j) l := plen_congr fun j hj => (e1 j hj).symm
        rw [this]
    · rw [size_put h.s.td, hkk, h.s.sz]
      simp only [Bool.false_eq_true, if_false]
      have := passed_len_more (f := fun j => decide (lab j = (j : Int))) (k := k) hk (by simp [hno k hk])
      unfold many
      rw [← this]
      refine plen_congr fun j hj => ?_
      by_cases e : j = k
      · subst e; simp [hRk]
      · have := hiff j hj e j hj
        rw [this]; simp [e]
theorem P2.run {W H N k : Nat} {fr : Nat → Bool} {lab1 lab : Nat → Int} {D1 D : DataW Unit} (h : Ph2 W N lab1 D1 k lab D) (hW : 1 ≤ W) (hN : N = W * H) (h0 : P2 W N fr 0 lab1 D1) : P2 W N fr k lab D := by
  induction h with
  | start => exact h0
  | @skip k lab D _ hk hl ih =>
    refine ⟨ih.nf, fun j hj hf => ?_, ih.u, ih.s⟩
    rcases ih.f j hj hf with hm | ⟨e, hkj⟩
    · exact .inl hm
    · refine .inr ⟨e, ?_⟩
      have : j ≠ k := fun e' => by subst e'; omega
      omega
  | @fill k lab D R _ hk hl hF ih => exact ih.fill hW hN hk hl hF

theorem Conn.avoid {W H N a j t : Nat} {fr : Nat → Bool} {lab : Nat → Int} (h : Conn W N fr a j) (hW : 1 ≤ W) (hN : N = W * H) (hC : Canon W N fr lab) (ha : a < N) (hf : fr a = true) (hne : lab a ≠ lab t) : Conn W N (fun x => fr x && !decide (x = t)) a j := by
  induction h with
  | refl => exact .refl
  | @step j k hc hk hfk ih =>
    refine .step ih hk ?_
    have := (Conn.step hc hk hfk).lab hW hN ha hf hC.u hC.ne
    have hkt : k ≠ t := fun e => by subst e; exact hne this.symm
    simp [hfk, hkt]
/-- Cut keeps the labels least, and the sizes right. -/
theorem CutStep.canon {W H N t : Nat} {fr : Nat → Bool} {lab lab2 : Nat → Int} {D D2 : DataW Unit} (h : CutStep W N t lab D lab2 D2) (hW : 1 ≤ W) (hN : N = W * H) (ht : t < N) (hC : Canon W N fr lab) (hS : SzOk N lab D) (hft : fr t = true) :
    Canon W N (fun x => fr x && !decide (x = t)) lab2 ∧ SzOk N lab2 D2 := by
  obtain ⟨lab1, h1, h2⟩ := h
  obtain ⟨m, hm, hmt, hmN, hmm, hfm, hcm⟩ := hC.self hW hN ht (hC.ne t ht hft)
  have hok := hC.ok
  have hu1 := ph1_uni h1 hW hN hC.u.cut
  have hk1 := fun j hj => ph1_kept h1 hW hN hC.u.cut (by omega) (hok t ht).2 j hj
  have hd1 := fun q k => ph1_done (H := H) h1 (hok t ht).2 q k
  -- what hung together with t bears a mark
  have hmark : ∀ j, Conn W N fr t j → j = t ∨ (N : Int) ≤ lab1 j := fun j hc => by
    induction hc with
    | refl => exact .inl rfl
    | @step j k hc hk hfk ih =>
      have hj := hc.lt hW hN ht
      have hkN := nbr_lt hW hN hj hk
      have hlk := hC.ne k hkN hfk
      by_cases ekt : k = t
      · exact .inl ekt
      right
      have hk0 := hk1 k hkN
      rw [if_neg ekt] at hk0
      rcases ih with ejt | hge
      · subst ejt
        obtain ⟨q, hq⟩ := List.getElem?_of_mem hk
        have hq2 : q < (nbr W N j).length := by
          rw [List.getElem?_eq_some_iff] at hq
          exact hq.1
        have := hd1 q k hq2 hq
        have e := hC.u j k hj hk (hC.ne j hj hft) hlk
        rcases hk0 with e1 | ⟨_, e1⟩
        · exact absurd (e1.trans e.symm) this
        · exact e1
      · have := hu1 j k hj hk (by omega) (by
          rcases hk0 with e1 | ⟨_, e1⟩
          · rw [e1]; exact hlk
          · omega)
        omega
  have hold : ∀ j, j < N → lab j = lab t → j ≠ t → (N : Int) ≤ lab1 j := fun j hj e hjt => by
    obtain ⟨m', hm', _, _, _, _, hcj⟩ := hC.self hW hN hj (by omega)
    obtain rfl : m' = m := by omega
    exact (hmark j ((hcm.symm hW hN hmN hfm).trans hcj)).resolve_left hjt
  have hkeep : ∀ j, j < N → lab j ≠ lab t → lab1 j = lab j := fun j hj hne => by
    have := hk1 j hj
    by_cases e : j = t
    · subst e; exact absurd rfl hne
    · rw [if_neg e] at this
      exact this.resolve_right fun h => hne h.1
  have ht1 : lab1 t = -1 := by
    have := hk1 t ht
    rw [if_pos rfl] at this
    exact this.resolve_right fun h => by omega
  have hP : P2 W N (fun x => fr x && !decide (x = t)) 0 lab1 (D.del (.int .i64 (lab t))) := by
    refine ⟨fun j hj hf => ?_, fun j hj hf => ?_, hu1, ?_⟩
    · by_cases e : j = t
      · subst e; exact ht1
      · have hfj : fr j = false := by simpa [e] using hf
        have := hC.nf j hj hfj
        rw [hkeep j hj (by omega), this]
    · have hfj : fr j = true ∧ j ≠ t := by simpa using hf
      by_cases e : lab j = lab t
      · exact .inr ⟨hold j hj e hfj.2, Nat.zero_le _⟩
      · left
        obtain ⟨m', hm', hm2, hm3, hm4, hm5, hcj⟩ := hC.self hW hN hj (hC.ne j hj hfj.1)
        refine ⟨m', by rw [hkeep j hj e, hm'], hm2, ?_, hcj.avoid hW hN hC hm3 hm5 (by omega)⟩
        have : m' ≠ t := fun e' => by subst e'; exact e (by omega)
        simp [hm5, this]
    · rw [hm]
      have hiff : ∀ l : Nat, l < N → l ≠ m → ∀ j, j < N → decide (lab1 j = (l : Int)) = decide (lab j = (l : Int)) := fun l hl hlm j hj => by
        by_cases e : lab j = lab t
        · by_cases e2 : j = t
          · subst e2; rw [ht1, decide_eq_decide]; constructor <;> intro e' <;> omega
          · have := hold j hj e e2
            rw [decide_eq_decide]; constructor <;> intro e' <;> omega
        · rw [hkeep j hj e]
      have hm1 : lab1 m ≠ (m : Int) := by
        by_cases e : m = t
        · subst e; rw [ht1]; omega
        · have := hold m hmN (by omega) e
          omega
      refine ⟨hS.td.del _, fun l hl => ?_, fun l hl hl2 z => ?_, ?_⟩
      · by_cases e : l = m
        · subst e; rw [has_del_same]; simp [hm1]
        · rw [has_del_other (key_ne e), hS.hs l hl, hiff l hl e l hl]
      · have e : l ≠ m := fun e => by subst e; exact hm1 hl2
        rw [atKey_del_other (key_ne e)]
        have e1 := hiff l hl e
        rw [hS.at_ l hl (by have := e1 l hl; simp only [decide_eq_decide] at this; exact this.1 hl2) z]
        have : cnt N lab l = cnt N lab1 l := plen_congr fun j hj => (e1 j hj).symm
        rw [this]
      · have hz := size_del (k := .int .i64 (m : Int)) hS.td
        rw [hS.hs m hmN, hS.sz] at hz
        simp only [hmm, decide_true, if_true] at hz
        have := passed_len_more (f := fun j => decide (lab1 j = (j : Int))) (k := m) hmN (by simp [hm1])
        have e2 : many N lab = (passed (fun j => decide (lab1 j = (j : Int)) || decide (j = m)) N).length := plen_congr fun j hj => by
          by_cases e : j = m
          · subst e; simp [hmm]
          · rw [hiff j hj e j hj]; simp [e]
        unfold many at e2 hz ⊢
        omega
  have := P2.run h2 hW hN hP
  refine ⟨⟨this.nf, fun j hj hf => ?_, this.u⟩, this.s⟩
  rcases this.f j hj hf with hm | ⟨_, e⟩
  · exact hm
  · omega
end Go.Proofs.YtbgbfljbjpbinaaDoor

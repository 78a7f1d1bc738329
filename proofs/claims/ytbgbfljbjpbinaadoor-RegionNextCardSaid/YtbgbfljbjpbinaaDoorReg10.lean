/- The chapter's example by the told steps: a 3 x 1 grid, its middle tile blocked and freed. No program in sight. -/
import Derived.Test.YtbgbfljbjpbinaaDoorReg9
namespace Go.Proofs.YtbgbfljbjpbinaaDoor
set_option linter.unusedSimpArgs false
set_option linter.unusedVariables false
open Go.RowKit Go.Maps

theorem reach3 {lab : Nat → Int} {label : Int} {t j : Nat} (h : Reach 3 3 lab label t j) (h1 : lab 1 = -1) (ht : t = 0 ∨ t = 2) : j = t := by
  induction h with
  | refl => rfl
  | @step j k _ hm hk _ ih =>
    subst ih
    have h0 : nbr 3 3 0 = [1] := by decide
    have h2 : nbr 3 3 2 = [1] := by decide
    have : k = 1 := by
      rcases ht with rfl | rfl
      · rw [h0] at hm; simp at hm; omega
      · rw [h2] at hm; simp at hm; omega
    subst this
    exact absurd h1 hk
theorem fill3 {lab : Nat → Int} {label : Int} {t n : Nat} {R : Nat → Bool} (h : FillAt 3 3 t label lab R [] n) (h1 : lab 1 = -1) (ht : t = 0 ∨ t = 2) (j : Nat) : R j = decide (j = t) := by
  by_cases e : j = t
  · subst e; simp [h.r0]
  · cases hR : R j
    · simp [e]
    · exact absurd (reach3 (h.rr j hR) h1 ht) e

theorem ph1_3 {lab1 : Nat → Int} (h : Ph1 3 3 0 [0, 2] (fun j => if j = 1 then -1 else 0) 2 lab1) : lab1 0 = 3 ∧ lab1 1 = -1 ∧ lab1 2 = 5 := by
  cases h with
  | @skip i k lab h hk _ hl =>
    obtain rfl : k = 2 := by simp at hk; omega
    exfalso
    cases h with
    | @skip i k lab h hk _ hl => cases h; obtain rfl : k = 0 := by simp at hk; omega
                                 simp at hl
    | @fill i k lab R h hk _ hl hF =>
      cases h
      obtain rfl : k = 0 := by simp at hk; omega
      have f2 : R 2 = false := by rw [fill3 hF (by simp) (.inl rfl)]; decide
      simp [f2] at hl
  | @fill i k lab R h hk _ hl hF =>
    obtain rfl : k = 2 := by simp at hk; omega
    cases h with
    | @skip i k lab h hk _ hl => cases h; obtain rfl : k = 0 := by simp at hk; omega
                                 simp at hl
    | @fill i k lab R' h hk _ hl hF' =>
      cases h
      obtain rfl : k = 0 := by simp at hk; omega
      have f' := fill3 hF' (by simp) (.inl rfl)
      have f := fill3 hF (by simp [f']) (.inr rfl)
      simp [f, f']
theorem ph2_3 {lab1 lab2 : Nat → Int} {D1 D2 : DataW Unit} (h0 : lab1 0 = 3) (h1 : lab1 1 = -1) (h2 : lab1 2 = 5) (h : Ph2 3 3 lab1 D1 3 lab2 D2) : lab2 0 = 0 ∧ lab2 1 = -1 ∧ lab2 2 = 2 := by
  have s1 : ∀ lab D, Ph2 3 3 lab1 D1 1 lab D → lab 0 = 0 ∧ lab 1 = -1 ∧ lab 2 = 5 := by
    intro lab D h
    cases h with
    | skip h _ hl => cases h; omega
    | @fill k lab D R h _ _ hF =>
      cases h
      have f := fill3 hF h1 (.inl rfl)
      simp [f, h1, h2]
  have s2 : ∀ lab D, Ph2 3 3 lab1 D1 2 lab D → lab 0 = 0 ∧ lab 1 = -1 ∧ lab 2 = 5 := by
    intro lab D h
    cases h with
    | skip h _ hl => exact s1 _ _ h
    | fill h _ hl hF =>
      obtain ⟨e0, e1, e2⟩ := s1 _ _ h
      exfalso
      simp only [Nat.zero_add] at hl
      omega
  cases h with
  | skip h _ hl =>
    obtain ⟨e0, e1, e2⟩ := s2 _ _ h
    exfalso
    simp only [Nat.zero_add] at hl
    omega
  | @fill k lab D R h _ _ hF =>
    obtain ⟨e0, e1, e2⟩ := s2 _ _ h
    have f := fill3 hF e1 (.inr rfl)
    simp [f, e0, e1]
theorem cut3 {D D2 : DataW Unit} {lab2 : Nat → Int} (h : CutStep 3 3 1 (fun _ => 0) D lab2 D2) : lab2 0 = 0 ∧ lab2 1 = -1 ∧ lab2 2 = 2 := by
  obtain ⟨lab1, h1, h2⟩ := h
  rw [show nbr 3 3 1 = [0, 2] by decide] at h1
  obtain ⟨e0, e1, e2⟩ := ph1_3 h1
  exact ph2_3 e0 e1 e2 h2
theorem reach3b {lab : Nat → Int} {j : Nat} (h : Reach 3 3 lab 0 2 j) (h0 : lab 0 = 0) : j = 2 ∨ j = 1 := by
  induction h with
  | refl => exact .inl rfl
  | @step j k _ hm hk hl ih =>
    have h1 : nbr 3 3 1 = [0, 2] := by decide
    have h2 : nbr 3 3 2 = [1] := by decide
    rcases ih with rfl | rfl
    · rw [h2] at hm; simp at hm; omega
    · rw [h1] at hm; simp at hm
      rcases hm with e | e
      · obtain rfl : k = 0 := by omega
        exact absurd h0 hl
      · left; omega
theorem join3 {lab lab2 : Nat → Int} {D D2 : DataW Unit} (h0 : lab 0 = 0) (h1 : lab 1 = -1) (h2 : lab 2 = 2) (h : JoinStep 3 3 1 lab D lab2 D2) : lab2 0 = 0 ∧ lab2 1 = 0 ∧ lab2 2 = 0 := by
  obtain ⟨m, s, D1, hm, _, _, hj⟩ := h
  rw [show nbr 3 3 1 = [0, 2] by decide] at hm hj
  obtain rfl : m = 0 := by
    have s1 : ∀ m, Lst [0, 2] lab ((1 : Nat) : Int) 1 m → m = 0 := by
      intro m h
      cases h with
      | @skip i k m h hk hl => cases h; obtain rfl : k = 0 := by simp at hk; omega
                               omega
      | @take i k m h hk hl => cases h; obtain rfl : k = 0 := by simp at hk; omega
                               simp [h0]
    have s2 : ∀ m, Lst [0, 2] lab ((1 : Nat) : Int) 2 m → m = 0 := by
      intro m h
      cases h with
      | skip h hk hl => exact s1 _ h
      | @take i k m h hk hl =>
        obtain rfl : k = 2 := by simp at hk; omega
        have := s1 _ h
        subst this
        simp [h2]
    exact s2 m hm
  have s1 : ∀ lab', Jn 3 3 0 [0, 2, 1] (fun j => if j = 1 then ((1 : Nat) : Int) else lab j) 1 lab' → lab' 0 = 0 ∧ lab' 1 = 1 ∧ lab' 2 = 2 := by
    intro lab' h
    cases h with
    | skip h _ _ _ => cases h; simp [h0, h2]
    | @fill i k lab R h hk _ h3 h4 =>
      cases h
      obtain rfl : k = 0 := by simp at hk; omega
      simp [h0] at h4
  have s2 : ∀ lab', Jn 3 3 0 [0, 2, 1] (fun j => if j = 1 then ((1 : Nat) : Int) else lab j) 2 lab' → lab' 0 = 0 ∧ lab' 1 = 0 ∧ lab' 2 = 0 := by
    intro lab' h
    cases h with
    | @skip i k lab h hk _ hl =>
      obtain rfl : k = 2 := by simp at hk; omega
      obtain ⟨e0, e1, e2⟩ := s1 _ h
      omega
    | @fill i k lab R h hk _ h3 h4 hF =>
      obtain rfl : k = 2 := by simp at hk; omega
      obtain ⟨e0, e1, e2⟩ := s1 _ h
      have r1 : R 1 = true := by
        rcases hF.cl 2 hF.r0 (by simp) 1 (by decide) with e | e | e
        · omega
        · omega
        · exact e
      simp [hF.r0, r1, e0]
  cases hj with
  | skip h _ _ _ => exact s2 _ h
  | @fill i k lab R h hk _ h3 h4 hF =>
    obtain rfl : k = 1 := by simp at hk; omega
    obtain ⟨e0, e1, e2⟩ := s2 _ h
    exact absurd e1 h4
end Go.Proofs.YtbgbfljbjpbinaaDoor

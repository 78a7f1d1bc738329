/- The plain law of fill: what a stack of tiles and a set of marked ones keep from round to round. No program in sight. -/
import Derived.Test.YtbgbfljbjpbinaaDoorReg1
import Derived.Test.YtbgbfljbjpbinaaDoorLawPlaces
namespace Go.Proofs.YtbgbfljbjpbinaaDoor
set_option linter.unusedSimpArgs false
set_option linter.unusedVariables false
open Go.RowKit

/-- Tiles to which a way leads from t over tiles that are free and don't yet bear the label. -/
inductive Reach (W N : Nat) (lab : Nat → Int) (label : Int) (t : Nat) : Nat → Prop
  | refl : Reach W N lab label t t
  | step {j k : Nat} : Reach W N lab label t j → (k : Int) ∈ nbr W N j → lab k ≠ -1 → lab k ≠ label → Reach W N lab label t k

theorem nbr_mem {W H N t : Nat} {x : Int} (hW : 1 ≤ W) (hN : N = W * H) (ht : t < N) (h : x ∈ nbr W N t) : ∃ k : Nat, x = k ∧ k < N := by
  unfold nbr at h
  simp only [List.mem_append] at h
  have hm := Nat.mod_lt t (show 0 < W by omega)
  have hd := Nat.div_add_mod t W
  rcases h with ((h | h) | h) | h
  · split at h
    · simp at h; exact ⟨t - W, by omega, by omega⟩
    · cases h
  · split at h
    · simp at h
      have : 0 < t := by
        apply Nat.pos_of_ne_zero; rintro rfl; simp at *
      exact ⟨t - 1, by omega, by omega⟩
    · cases h
  · split at h
    · simp at h; refine ⟨t + 1, by omega, ?_⟩
      have hq : t / W < H := Nat.div_lt_of_lt_mul (by omega)
      have := Nat.mul_le_mul_left W (show t / W + 1 ≤ H by omega)
      rw [Nat.mul_add, Nat.mul_one] at this
      omega
    · cases h
  · split at h
    · simp at h; exact ⟨t + W, by omega, by omega⟩
    · cases h

theorem passed_len_more {f : Nat → Bool} {k N : Nat} (hk : k < N) (hf : f k = false) : (passed (fun j => f j || decide (j = k)) N).length = (passed f N).length + 1 := by
  induction N with
  | zero => omega
  | succ N ih =>
    by_cases e : k = N
    · subst e
      rw [passed_hit (f := fun j => f j || decide (j = k)) (by simp), passed_miss hf, passed_congr (g := f) (fun j hj => by simp; omega)]
      simp
    · have := ih (by omega)
      cases hN : f N
      · rw [passed_miss hN, passed_miss (f := fun j => f j || decide (j = k)) (by simp [hN]; omega), this]
      · rw [passed_hit hN, passed_hit (f := fun j => f j || decide (j = k)) (by simp [hN])]
        simp [this]

/-- Between two rounds: R the marked tiles, S the stack, n how many were taken from it. -/
structure FillAt (W N t : Nat) (label : Int) (lab : Nat → Int) (R : Nat → Bool) (S : List Nat) (n : Nat) : Prop where
  r0 : R t = true
  rN : ∀ j, R j = true → j < N
  rr : ∀ j, R j = true → Reach W N lab label t j
  st : ∀ j ∈ S, R j = true
  cl : ∀ j, R j = true → j ∉ S → ∀ k : Nat, (k : Int) ∈ nbr W N j → lab k = -1 ∨ lab k = label ∨ R k = true
  ct : n + S.length = (passed R N).length
/-- In a round: tile a was taken, its first i neighbours are looked at. -/
structure FillIn (W N t : Nat) (label : Int) (lab : Nat → Int) (a i : Nat) (R : Nat → Bool) (S : List Nat) (n : Nat) : Prop where
  r0 : R t = true
  ra : R a = true
  rN : ∀ j, R j = true → j < N
  rr : ∀ j, R j = true → Reach W N lab label t j
  st : ∀ j ∈ S, R j = true
  cl : ∀ j, R j = true → j ≠ a → j ∉ S → ∀ k : Nat, (k : Int) ∈ nbr W N j → lab k = -1 ∨ lab k = label ∨ R k = true
  ca : ∀ (q k : Nat), q < i → (nbr W N a)[q]? = some (k : Int) → lab k = -1 ∨ lab k = label ∨ R k = true
  ct : n + S.length = (passed R N).length
theorem FillAt.start {W N t : Nat} {label : Int} {lab : Nat → Int} (ht : t < N) : FillAt W N t label lab (fun j => decide (j = t)) [t] 0 :=
  ⟨by simp, fun j hj => by simp at hj; omega, fun j hj => by simp at hj; subst hj; exact .refl, fun j hj => by simpa using hj, fun j hj hn => by simp at hj hn; exact absurd hj hn, by rw [passed_one ht]; rfl⟩
theorem FillAt.pop {W N t : Nat} {label : Int} {lab : Nat → Int} {R : Nat → Bool} {S : List Nat} {n a : Nat} (h : FillAt W N t label lab R (S ++ [a]) n) : FillIn W N t label lab a 0 R S (n + 1) :=
  ⟨h.r0, h.st a (by simp), h.rN, h.rr, fun j hj => h.st j (by simp [hj]), fun j hj ha hn => h.cl j hj (by simp [ha, hn]), fun q k hq => by omega, by have := h.ct; simp at this; omega⟩
theorem FillIn.skip {W N t : Nat} {label : Int} {lab : Nat → Int} {R : Nat → Bool} {S : List Nat} {n a i k : Nat} (h : FillIn W N t label lab a i R S n) (hl : label ≠ -1) (hk : (nbr W N a)[i]? = some (k : Int)) (hb : (if R k = true then label else lab k) = -1 ∨ (if R k = true then label else lab k) = label) : FillIn W N t label lab a (i + 1) R S n := by
  refine ⟨h.r0, h.ra, h.rN, h.rr, h.st, h.cl, fun q x hq hx => ?_, h.ct⟩
  by_cases e : q = i
  · subst e
    rw [hk] at hx
    obtain rfl : k = x := by have := Option.some.inj hx; omega
    by_cases hR : R k = true
    · exact .inr (.inr hR)
    · simp only [hR, if_false] at hb
      rcases hb with hb | hb
      · exact .inl (by simpa using hb)
      · exact .inr (.inl (by simpa using hb))
  · exact h.ca q x (by omega) hx
theorem FillIn.push {W N t : Nat} {label : Int} {lab : Nat → Int} {R : Nat → Bool} {S : List Nat} {n a i k : Nat} (h : FillIn W N t label lab a i R S n) (hkN : k < N) (hk : (nbr W N a)[i]? = some (k : Int)) (h1 : (if R k = true then label else lab k) ≠ -1) (h2 : (if R k = true then label else lab k) ≠ label) :
    FillIn W N t label lab a (i + 1) (fun j => R j || decide (j = k)) (S ++ [k]) n := by
  have hR : R k = false := by
    cases e : R k
    · rfl
    · rw [e] at h2; simp at h2
  rw [hR] at h1 h2
  simp only [Bool.false_eq_true, if_false] at h1 h2
  have hm : (k : Int) ∈ nbr W N a := List.mem_of_getElem? hk
  have hk' : Reach W N lab label t k := .step (h.rr a h.ra) hm h1 h2
  refine ⟨by simp [h.r0], by simp [h.ra], fun j hj => ?_, fun j hj => ?_, fun j hj => ?_, fun j hj ha hn x hx => ?_, fun q x hq hx => ?_, ?_⟩
  · simp at hj
    rcases hj with hj | rfl
    · exact h.rN j hj
    · exact hkN
  · simp at hj
    rcases hj with hj | rfl
    · exact h.rr j hj
    · exact hk'
  · simp at hj
    rcases hj with hj | rfl
    · simp [h.st j hj]
    · simp
  · simp at hj hn
    rcases hj with hj | hj
    · rcases h.cl j hj ha hn.1 x hx with e | e | e
      · exact .inl e
      · exact .inr (.inl e)
      · exact .inr (.inr (by simp [e]))
    · exact absurd hj hn.2
  · by_cases e : q = i
    · subst e
      rw [hk] at hx
      obtain rfl : k = x := by have := Option.some.inj hx; omega
      exact .inr (.inr (by simp))
    · rcases h.ca q x (by omega) hx with e | e | e
      · exact .inl e
      · exact .inr (.inl e)
      · exact .inr (.inr (by simp [e]))
  · rw [passed_len_more hkN hR]
    have := h.ct
    simp; omega
theorem FillIn.done {W N t : Nat} {label : Int} {lab : Nat → Int} {R : Nat → Bool} {S : List Nat} {n a i : Nat} (h : FillIn W N t label lab a i R S n) (hi : (nbr W N a).length ≤ i) : FillAt W N t label lab R S n := by
  refine ⟨h.r0, h.rN, h.rr, h.st, fun j hj hn k hk => ?_, h.ct⟩
  by_cases e : j = a
  · subst e
    obtain ⟨q, hq, e⟩ := List.getElem_of_mem hk
    exact h.ca q k (by omega) (by rw [List.getElem?_eq_getElem hq, e])
  · exact h.cl j hj e hn k hk
theorem relabel_more {label : Int} {lab : Nat → Int} {R : Nat → Bool} {k : Nat} (j : Nat) : (if j = k then label else if R j = true then label else lab j) = (if (R j || decide (j = k)) = true then label else lab j) := by
  by_cases e : j = k
  · subst e; simp
  · simp [e]
end Go.Proofs.YtbgbfljbjpbinaaDoor

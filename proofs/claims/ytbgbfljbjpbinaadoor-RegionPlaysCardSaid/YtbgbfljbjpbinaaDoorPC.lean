/- The plain law of the reference's labels; the walks of Next, In, Ask, All, Ints, KeptInts; Num at two errors; calm regions. Conditions: the cells that each contract names. -/
import Derived.Test.YtbgbfljbjpbinaaDoorPB
import Derived.Test.YtbgbfljbjpbinaaDoorFrame5
import Derived.OrdersHeld
import Derived.Deep.RegionHeld3
import Derived.Test.YtbgbfljbjpbinaaDoorNum
namespace Go.Proofs.YtbgbfljbjpbinaaDoor
set_option linter.unusedSimpArgs false
set_option linter.unusedVariables false
open Go.RowKit Go.Maps

/-- The neighbours in the reference's order. -/
def rnbr (W N t : Nat) : List Int :=
  (if 0 < t % W then [(t : Int) - 1] else []) ++ (if t % W + 1 < W then [(t : Int) + 1] else []) ++ (if W ≤ t then [(t : Int) - W] else []) ++ (if t + W < N then [(t : Int) + W] else [])
theorem rnbr_mem {W N t : Nat} {x : Int} (hW : 1 ≤ W) : x ∈ rnbr W N t ↔ x ∈ nbr W N t := by
  have e : (if t % W + 1 < W then [(t : Int) + 1] else []) = (if t % W < W - 1 then [(t : Int) + 1] else []) := by
    by_cases h : t % W + 1 < W
    · rw [if_pos h, if_pos (by omega)]
    · rw [if_neg h, if_neg (by omega)]
  unfold rnbr nbr
  rw [e]
  simp only [List.mem_append]
  constructor
  · rintro (((h | h) | h) | h)
    · exact .inl (.inl (.inr h))
    · exact .inl (.inr h)
    · exact .inl (.inl (.inl h))
    · exact .inr h
  · rintro (((h | h) | h) | h)
    · exact .inl (.inr h)
    · exact .inl (.inl (.inl h))
    · exact .inl (.inl (.inr h))
    · exact .inr h
structure RInv (W N : Nat) (fr : Nat → Bool) (lab : Nat → Int) : Prop where
  nf : ∀ j, j < N → fr j = false → lab j = -1
  f : ∀ j, j < N → fr j = true → ∃ m : Nat, lab j = m ∧ m ≤ j ∧ fr m = true ∧ Conn W N fr m j
theorem RInv.ok {W N : Nat} {fr : Nat → Bool} {lab : Nat → Int} (h : RInv W N fr lab) : LabOk N lab := fun j hj => by
  cases e : fr j
  · rw [h.nf j hj e]; omega
  · obtain ⟨m, e, hm, _⟩ := h.f j hj e
    omega
theorem RInv.fr_of {W N : Nat} {fr : Nat → Bool} {lab : Nat → Int} (h : RInv W N fr lab) {j : Nat} (hj : j < N) (hl : lab j ≠ -1) : fr j = true := by
  cases e : fr j
  · exact absurd (h.nf j hj e) hl
  · rfl
theorem RInv.start (W N : Nat) (fr : Nat → Bool) : RInv W N fr (fun j => if fr j = true then (j : Int) else -1) :=
  ⟨fun j _ hf => by simp [hf], fun j _ hf => ⟨j, by simp [hf], Nat.le_refl _, hf, .refl⟩⟩
theorem RInv.set {W H N t k : Nat} {fr : Nat → Bool} {lab : Nat → Int} (h : RInv W N fr lab) (hW : 1 ≤ W) (hN : N = W * H) (ht : t < N) (hk : (k : Int) ∈ nbr W N t) (hl : 0 ≤ lab k) (hlt : lab k < lab t) : RInv W N fr (fun j => if j = t then lab k else lab j) := by
  have hkN := nbr_lt hW hN ht hk
  have hfk := h.fr_of hkN (by omega)
  have hft := h.fr_of ht (by omega)
  obtain ⟨m, e1, e2, e3, e4⟩ := h.f k hkN hfk
  obtain ⟨m', f1, f2, f3, f4⟩ := h.f t ht hft
  refine ⟨fun j hj hf => ?_, fun j hj hf => ?_⟩
  · by_cases e : j = t
    · subst e; rw [hft] at hf; cases hf
    · rw [if_neg e]; exact h.nf j hj hf
  · by_cases e : j = t
    · subst e
      exact ⟨m, by simp [e1], by omega, e3, .step e4 (nbr_symm hW ht hk) hft⟩
    · rw [if_neg e]; exact h.f j hj hf
/-- In a round: the tiles below t are done; ch: has anything changed? -/
structure Rnd (W N : Nat) (fr : Nat → Bool) (lab0 : Nat → Int) (t : Nat) (lab : Nat → Int) (ch : Bool) : Prop where
  i : RInv W N fr lab
  le : ∀ j, j < N → lab j ≤ lab0 j
  dn : ∀ v u : Nat, v < t → v < N → fr v = true → (u : Int) ∈ nbr W N v → fr u = true → lab v ≤ lab0 u
  same : ch = false → ∀ j, j < N → lab j = lab0 j
/-- At tile t, behind its first i neighbours. -/
structure RndIn (W N : Nat) (fr : Nat → Bool) (lab0 : Nat → Int) (t i : Nat) (lab : Nat → Int) (ch : Bool) : Prop where
  r : Rnd W N fr lab0 t lab ch
  ca : ∀ q u : Nat, q < i → (rnbr W N t)[q]? = some (u : Int) → fr u = true → lab t ≤ lab0 u
theorem Rnd.start {W N : Nat} {fr : Nat → Bool} {lab : Nat → Int} (h : RInv W N fr lab) : Rnd W N fr lab 0 lab false :=
  ⟨h, fun _ _ => Int.le_refl _, fun v u hv => by omega, fun _ _ _ => rfl⟩
theorem Rnd.enter {W N t : Nat} {fr : Nat → Bool} {lab0 lab : Nat → Int} {ch : Bool} (h : Rnd W N fr lab0 t lab ch) : RndIn W N fr lab0 t 0 lab ch := ⟨h, fun q u hq => by omega⟩
theorem Rnd.pass {W N t : Nat} {fr : Nat → Bool} {lab0 lab : Nat → Int} {ch : Bool} (h : Rnd W N fr lab0 t lab ch) (hl : lab t < 0) : Rnd W N fr lab0 (t + 1) lab ch := by
  refine ⟨h.i, h.le, fun v u hv hvN hf hu hfu => ?_, h.same⟩
  by_cases e : v = t
  · subst e
    obtain ⟨m, e1, _⟩ := h.i.f v hvN hf
    omega
  · exact h.dn v u (by omega) hvN hf hu hfu
theorem RndIn.leave {W N t : Nat} {fr : Nat → Bool} {lab0 lab : Nat → Int} {ch : Bool} (h : RndIn W N fr lab0 t (rnbr W N t).length lab ch) (hW : 1 ≤ W) : Rnd W N fr lab0 (t + 1) lab ch := by
  refine ⟨h.r.i, h.r.le, fun v u hv hvN hf hu hfu => ?_, h.r.same⟩
  by_cases e : v = t
  · subst e
    obtain ⟨q, hq⟩ := List.getElem?_of_mem ((rnbr_mem hW).2 hu)
    exact h.ca q u (by rw [List.getElem?_eq_some_iff] at hq; exact hq.1) hq hfu
  · exact h.r.dn v u (by omega) hvN hf hu hfu
theorem RndIn.skip {W H N t i k : Nat} {fr : Nat → Bool} {lab0 lab : Nat → Int} {ch : Bool} (h : RndIn W N fr lab0 t i lab ch) (hkN : k < N) (hk : (rnbr W N t)[i]? = some (k : Int)) (hn : lab k < 0 ∨ lab t ≤ lab k) : RndIn W N fr lab0 t (i + 1) lab ch := by
  refine ⟨h.r, fun q u hq hu hf => ?_⟩
  by_cases e : q = i
  · subst e
    rw [hk] at hu
    obtain rfl : k = u := by have := Option.some.inj hu; omega
    obtain ⟨m, e1, _⟩ := h.r.i.f k hkN hf
    have := h.r.le k hkN
    omega
  · exact h.ca q u (by omega) hu hf
theorem RndIn.take {W H N t i k : Nat} {fr : Nat → Bool} {lab0 lab : Nat → Int} {ch : Bool} (h : RndIn W N fr lab0 t i lab ch) (hW : 1 ≤ W) (hN : N = W * H) (ht : t < N) (hk : (rnbr W N t)[i]? = some (k : Int)) (hl : 0 ≤ lab k) (hlt : lab k < lab t) : RndIn W N fr lab0 t (i + 1) (fun j => if j = t then lab k else lab j) true := by
  have hkm : (k : Int) ∈ nbr W N t := (rnbr_mem hW).1 (List.mem_of_getElem? hk)
  have hkN := nbr_lt hW hN ht hkm
  have hkt := h.r.le k hkN
  have htt := h.r.le t ht
  refine ⟨⟨h.r.i.set hW hN ht hkm hl hlt, fun j hj => ?_, fun v u hv hvN hf hu hfu => ?_, fun e => by cases e⟩, fun q u hq hu hf => ?_⟩
  · by_cases e : j = t
    · subst e; simp; omega
    · simp [e]; exact h.r.le j hj
  · have e : v ≠ t := by omega
    simp [e]; exact h.r.dn v u hv hvN hf hu hfu
  · simp
    by_cases e : q = i
    · subst e
      rw [hk] at hu
      obtain rfl : k = u := by have := Option.some.inj hu; omega
      exact hkt
    · have := h.ca q u (by omega) hu hf
      omega
theorem Rnd.canon {W N : Nat} {fr : Nat → Bool} {lab0 lab : Nat → Int} {H : Nat} (h : Rnd W N fr lab0 N lab false) (hW : 1 ≤ W) (hN : N = W * H) : Canon W N fr lab := by
  refine ⟨h.i.nf, h.i.f, fun j k hj hk h1 h2 => ?_⟩
  have hkN := nbr_lt hW hN hj hk
  have fj := h.i.fr_of hj h1
  have fk := h.i.fr_of hkN h2
  have a1 := h.dn j k hj hj fj hk fk
  have a2 := h.dn k j hkN hkN fk (nbr_symm hW hj hk) fj
  rw [← h.same rfl k hkN] at a1
  rw [← h.same rfl j hj] at a2
  omega

theorem least_of {p : Nat → Prop} (n : Nat) (h : p n) : ∃ m, p m ∧ ∀ k, p k → m ≤ k := by
  induction n using Nat.strongRecOn with
  | _ n ih =>
    by_cases hx : ∃ k, k < n ∧ p k
    · obtain ⟨k, hk, hp⟩ := hx
      exact ih k hk hp
    · refine ⟨n, h, fun k hk => Nat.le_of_not_lt fun hlt => hx ⟨k, hlt, hk⟩⟩
/-- f tells each free tile's least tile. -/
def Fin' (W N : Nat) (fr : Nat → Bool) (f : Nat → Nat) : Prop := ∀ j, j < N → fr j = true → (f j < N ∧ fr (f j) = true ∧ Conn W N fr (f j) j) ∧ ∀ k, (k < N ∧ fr k = true ∧ Conn W N fr k j) → f j ≤ k
theorem fin_exists (W N : Nat) (fr : Nat → Bool) : ∃ f, Fin' W N fr f := by
  have : ∀ j, ∃ m, j < N → fr j = true → (m < N ∧ fr m = true ∧ Conn W N fr m j) ∧ ∀ k, (k < N ∧ fr k = true ∧ Conn W N fr k j) → m ≤ k := fun j => by
    by_cases hj : j < N ∧ fr j = true
    · obtain ⟨m, h1, h2⟩ := least_of (p := fun k => k < N ∧ fr k = true ∧ Conn W N fr k j) j ⟨hj.1, hj.2, .refl⟩
      exact ⟨m, fun _ _ => ⟨h1, h2⟩⟩
    · exact ⟨0, fun a b => absurd ⟨a, b⟩ hj⟩
  obtain ⟨f, hf⟩ := Classical.axiomOfChoice this
  exact ⟨f, hf⟩
theorem Fin'.eq {W H N a j : Nat} {fr : Nat → Bool} {f : Nat → Nat} (h : Fin' W N fr f) (hW : 1 ≤ W) (hN : N = W * H) (ha : a < N) (hfa : fr a = true) (hc : Conn W N fr a j) : f a = f j := by
  have hj := hc.lt hW hN ha
  have hfj := hc.free hfa
  obtain ⟨⟨a1, a2, a3⟩, a4⟩ := h a ha hfa
  obtain ⟨⟨b1, b2, b3⟩, b4⟩ := h j hj hfj
  have := b4 (f a) ⟨a1, a2, a3.trans hc⟩
  have := a4 (f j) ⟨b1, b2, b3.trans (hc.symm hW hN ha hfa)⟩
  omega
theorem plen_mono {f g : Nat → Bool} {N : Nat} (h : ∀ j, j < N → f j = true → g j = true) : (passed f N).length ≤ (passed g N).length := by
  induction N with
  | zero => exact Nat.le_refl _
  | succ N ih =>
    have := ih fun j hj => h j (by omega)
    cases hf : f N
    · rw [passed_miss hf]
      cases hg : g N
      · rw [passed_miss hg]; exact this
      · rw [passed_hit hg, List.length_append]; omega
    · have hg := h N (by omega) hf
      rw [passed_hit hf, passed_hit hg, List.length_append, List.length_append]
      simp; exact this
theorem plen_less {f g : Nat → Bool} {N v : Nat} (h : ∀ j, j < N → f j = true → g j = true) (hv : v < N) (hg : g v = true) (hf : f v = false) : (passed f N).length + 1 ≤ (passed g N).length := by
  rw [← passed_len_more hv hf]
  refine plen_mono fun j hj hx => ?_
  simp at hx
  rcases hx with hx | rfl
  · exact h j hj hx
  · exact hg
/-- How many tiles don't yet bear their least one. -/
def bad (N : Nat) (fr : Nat → Bool) (f : Nat → Nat) (lab : Nat → Int) : Nat := (passed (fun j => fr j && decide (lab j ≠ (f j : Int))) N).length
theorem RInv.ge {W N j : Nat} {fr : Nat → Bool} {f : Nat → Nat} {lab : Nat → Int} (h : RInv W N fr lab) (hf : Fin' W N fr f) (hj : j < N) (hfr : fr j = true) : (f j : Int) ≤ lab j := by
  obtain ⟨m, e1, e2, e3, e4⟩ := h.f j hj hfr
  have := (hf j hj hfr).2 m ⟨by omega, e3, e4⟩
  omega
theorem RInv.canon {W H N : Nat} {fr : Nat → Bool} {f : Nat → Nat} {lab : Nat → Int} (h : RInv W N fr lab) (hf : Fin' W N fr f) (hW : 1 ≤ W) (hN : N = W * H) (hb : bad N fr f lab = 0) : Canon W N fr lab := by
  have key : ∀ j, j < N → fr j = true → lab j = (f j : Int) := fun j hj hfr => by
    apply Classical.byContradiction
    intro hne
    have := plen_less (f := fun _ => false) (g := fun j => fr j && decide (lab j ≠ (f j : Int))) (N := N) (v := j) (fun _ _ h => by cases h) hj (by simp [hfr, hne]) rfl
    unfold bad at hb
    omega
  refine ⟨h.nf, h.f, fun j k hj hk h1 h2 => ?_⟩
  have hkN := nbr_lt hW hN hj hk
  have fj := h.fr_of hj h1
  have fk := h.fr_of hkN h2
  rw [key j hj fj, key k hkN fk, hf.eq hW hN hj fj (.step .refl hk fk)]
theorem Rnd.less {W H N : Nat} {fr : Nat → Bool} {f : Nat → Nat} {lab0 lab : Nat → Int} {ch : Bool} (h : Rnd W N fr lab0 N lab ch) (h0 : RInv W N fr lab0) (hf : Fin' W N fr f) (hW : 1 ≤ W) (hN : N = W * H) (b : Nat) (hb : bad N fr f lab0 ≤ b) : bad N fr f lab ≤ b - 1 := by
  have hmono : ∀ j, j < N → (fr j && decide (lab j ≠ (f j : Int))) = true → (fr j && decide (lab0 j ≠ (f j : Int))) = true := fun j hj hx => by
    simp only [Bool.and_eq_true, decide_eq_true_eq] at hx ⊢
    refine ⟨hx.1, fun e => hx.2 ?_⟩
    have := h.i.ge hf hj hx.1
    have := h.le j hj
    omega
  by_cases hz : ∃ v u : Nat, v < N ∧ fr v = true ∧ lab0 v ≠ (f v : Int) ∧ (u : Int) ∈ nbr W N v ∧ fr u = true ∧ lab0 u = (f u : Int)
  · obtain ⟨v, u, hv, hfv, hbv, hu, hfu, hgu⟩ := hz
    have e : f v = f u := hf.eq hW hN hv hfv (.step .refl hu hfu)
    have h1 := h.dn v u hv hv hfv hu hfu
    have h2 := h.i.ge hf hv hfv
    have := plen_less (f := fun j => fr j && decide (lab j ≠ (f j : Int))) (g := fun j => fr j && decide (lab0 j ≠ (f j : Int))) hmono hv (by simp [hfv, hbv]) (by simp; intro _; omega)
    unfold bad at hb ⊢
    omega
  · have all : ∀ j, j < N → fr j = true → lab0 j = (f j : Int) := fun j hj hfj => by
      obtain ⟨⟨a1, a2, a3⟩, _⟩ := hf j hj hfj
      have ea := hf.eq hW hN a1 a2 a3
      have walk : ∀ x, Conn W N fr (f j) x → lab0 x = (f x : Int) := fun x hc => by
        induction hc with
        | refl =>
          obtain ⟨m, e1, e2, _⟩ := h0.f (f j) a1 a2
          have := h0.ge hf a1 a2
          omega
        | @step x k hc hk hfk ih =>
          have hx := hc.lt hW hN a1
          apply Classical.byContradiction
          intro hne
          exact hz ⟨k, x, nbr_lt hW hN hx hk, hfk, hne, nbr_symm hW hx hk, hc.free a2, ih⟩
      exact walk j a3
    have : bad N fr f lab = 0 := by
      unfold bad
      rw [passed_none fun j hj => by
        cases hfj : fr j
        · rfl
        · have := all j hj hfj
          have := h.le j hj
          have := h.i.ge hf hj hfj
          simp; omega]
      rfl
    omega
end Go.Proofs.YtbgbfljbjpbinaaDoor
namespace Go.Proofs.YtbgbfljbjpbinaaDoor
set_option linter.unusedSimpArgs false
set_option linter.unusedVariables false
open Go.RowKit

set_option maxRecDepth 100000 in
set_option maxHeartbeats 16000000 in
theorem rnext_any (W N t : Nat) (w : World) (hW : 1 ≤ W ∧ W ≤ 32) (hN : N ≤ 1024) (ht : t < N) :
    Calls Tryd.prog 67 #[.int .i64 W, .int .i64 N, .int .i64 t] w fun e w' => (∃ v, e = .returned v ∧ NewInts w' v (rnbr W N t) w.heap.size) ∧ Grew w w' := by
  obtain ⟨r, hr⟩ : ∃ r, r = t % W := ⟨_, rfl⟩
  have hrW : r < W := by rw [hr]; exact Nat.mod_lt _ (by omega)
  have hrem : (t : Int).tmod (W : Int) = (r : Int) := by rw [Int.tmod_eq_emod_of_nonneg (by omega), hr]; push_cast; rfl
  have hw0 : (W : Int) ≠ 0 := by omega
  have hwne : ¬ W = 0 := by omega
  have HL : Hid (∀ L1 L2 L3 L4 : List Int, L1 = (if 0 < r then [(t : Int) - 1] else []) → L2 = (if r + 1 < W then [(t : Int) + 1] else []) → L3 = (if W ≤ t then [(t : Int) - W] else []) → L4 = (if t + W < N then [(t : Int) + W] else []) → rnbr W N t = L1 ++ L2 ++ L3 ++ L4) := by
    rintro L1 L2 L3 L4 rfl rfl rfl rfl
    rw [hr]; simp [rnbr]
  clear hr
  obtain ⟨i0, hi0, hi1, hi2, hi3⟩ := info_parts infoInt
  have HO : Hid (Own (w.alloc (.cells #[] 3)) w.heap.size (.slice (some ⟨w.heap.size, 0, none⟩) 0 0) []) := (OutAt.start w (w.heap.size + 1)).own
  have HG : Hid (Grew w (w.alloc (.cells #[] 3))) := (Grew.refl _).alloc _
  go_enter Tryd.func67, Tryd.ntmps67
  by_cases h0 : 0 < r
  · go_wp2_with (at_builtin; refine wpList_append_own _ rfl _ _ 28 rfl w.heap.size 3 i0 (.int .i64 0) 1 8 Tryd.underlying28 hi0 hi1 hi2 hi3 rfl (by decide) _ _ _ rfl (HO.out.grew (by repeat (first | exact Grew.refl _ | assumption | refine Grew.drew ?_ | refine Grew.alloc ?_ _ | refine Grew.setCell ?_ (by (try simp only [World.size_alloc, World.size_drew]); omega) _ | refine Grew.trans ?_ (by assumption)))).raw ⟨_, 0, none⟩ 1 1 [.int .i64 ((t : Int) - 1)] rfl rfl ?c1 ?c2 ?c3 ?c4 ?c5 ?_)
    case c1 =>
      intro j u hj
      match j, hj with
      | 0, hj => simp at hj; subst hj; simp [Addr.add]
    case c2 => intro u hu; simp at hu; subst hu; rfl
    case c3 => simp; unfold maxLen; omega
    case c4 => simp
    case c5 => have := HG.out.size; simp <;> omega
    · intro v1 w1 hown' hgrow _
      obtain ⟨hO1, hG1, hB1⟩ := HO.out.nextG (a := w) hown' hgrow (by repeat (first | exact Grew.refl _ | assumption | refine Grew.drew ?_ | refine Grew.alloc ?_ _ | refine Grew.setCell ?_ (by (try simp only [World.size_alloc, World.size_drew]); omega) _ | refine Grew.trans ?_ (by assumption))) HG.out (Nat.le_refl _) HG.out.size
      have HO : Hid (Own w1 w.heap.size _ _) := hO1
      have HG : Hid (Grew w w1) := hG1
      clear hown' hgrow hO1 hG1 hB1
      by_cases h1 : r + 1 < W
      · go_wp2_with (at_builtin; refine wpList_append_own _ rfl _ _ 28 rfl w.heap.size 3 i0 (.int .i64 0) 1 8 Tryd.underlying28 hi0 hi1 hi2 hi3 rfl (by decide) _ _ _ rfl (HO.out.grew (by repeat (first | exact Grew.refl _ | assumption | refine Grew.drew ?_ | refine Grew.alloc ?_ _ | refine Grew.setCell ?_ (by (try simp only [World.size_alloc, World.size_drew]); omega) _ | refine Grew.trans ?_ (by assumption)))).raw ⟨_, 0, none⟩ 1 1 [.int .i64 ((t : Int) + 1)] rfl rfl ?c1 ?c2 ?c3 ?c4 ?c5 ?_)
        case c1 =>
          intro j u hj
          match j, hj with
          | 0, hj => simp at hj; subst hj; simp [Addr.add]
        case c2 => intro u hu; simp at hu; subst hu; rfl
        case c3 => simp; unfold maxLen; omega
        case c4 => simp
        case c5 => have := HG.out.size; simp <;> omega
        · intro v2 w2 hown' hgrow _
          obtain ⟨hO1, hG1, hB1⟩ := HO.out.nextG (a := w) hown' hgrow (by repeat (first | exact Grew.refl _ | assumption | refine Grew.drew ?_ | refine Grew.alloc ?_ _ | refine Grew.setCell ?_ (by (try simp only [World.size_alloc, World.size_drew]); omega) _ | refine Grew.trans ?_ (by assumption))) HG.out (Nat.le_refl _) HG.out.size
          have HO : Hid (Own w2 w.heap.size _ _) := hO1
          have HG : Hid (Grew w w2) := hG1
          clear hown' hgrow hO1 hG1 hB1
          by_cases h2 : W ≤ t
          · go_wp2_with (at_builtin; refine wpList_append_own _ rfl _ _ 28 rfl w.heap.size 3 i0 (.int .i64 0) 1 8 Tryd.underlying28 hi0 hi1 hi2 hi3 rfl (by decide) _ _ _ rfl (HO.out.grew (by repeat (first | exact Grew.refl _ | assumption | refine Grew.drew ?_ | refine Grew.alloc ?_ _ | refine Grew.setCell ?_ (by (try simp only [World.size_alloc, World.size_drew]); omega) _ | refine Grew.trans ?_ (by assumption)))).raw ⟨_, 0, none⟩ 1 1 [.int .i64 ((t : Int) - W)] rfl rfl ?c1 ?c2 ?c3 ?c4 ?c5 ?_)
            case c1 =>
              intro j u hj
              match j, hj with
              | 0, hj => simp at hj; subst hj; simp [Addr.add]
            case c2 => intro u hu; simp at hu; subst hu; rfl
            case c3 => simp; unfold maxLen; omega
            case c4 => simp
            case c5 => have := HG.out.size; simp <;> omega
            · intro v3 w3 hown' hgrow _
              obtain ⟨hO1, hG1, hB1⟩ := HO.out.nextG (a := w) hown' hgrow (by repeat (first | exact Grew.refl _ | assumption | refine Grew.drew ?_ | refine Grew.alloc ?_ _ | refine Grew.setCell ?_ (by (try simp only [World.size_alloc, World.size_drew]); omega) _ | refine Grew.trans ?_ (by assumption))) HG.out (Nat.le_refl _) HG.out.size
              have HO : Hid (Own w3 w.heap.size _ _) := hO1
              have HG : Hid (Grew w w3) := hG1
              clear hown' hgrow hO1 hG1 hB1
              by_cases h3 : t + W < N
              · go_wp2_with (at_builtin; refine wpList_append_own _ rfl _ _ 28 rfl w.heap.size 3 i0 (.int .i64 0) 1 8 Tryd.underlying28 hi0 hi1 hi2 hi3 rfl (by decide) _ _ _ rfl (HO.out.grew (by repeat (first | exact Grew.refl _ | assumption | refine Grew.drew ?_ | refine Grew.alloc ?_ _ | refine Grew.setCell ?_ (by (try simp only [World.size_alloc, World.size_drew]); omega) _ | refine Grew.trans ?_ (by assumption)))).raw ⟨_, 0, none⟩ 1 1 [.int .i64 ((t : Int) + W)] rfl rfl ?c1 ?c2 ?c3 ?c4 ?c5 ?_)
                case c1 =>
                  intro j u hj
                  match j, hj with
                  | 0, hj => simp at hj; subst hj; simp [Addr.add]
                case c2 => intro u hu; simp at hu; subst hu; rfl
                case c3 => simp; unfold maxLen; omega
                case c4 => simp
                case c5 => have := HG.out.size; simp <;> omega
                · intro v4 w4 hown' hgrow _
                  obtain ⟨hO1, hG1, hB1⟩ := HO.out.nextG (a := w) hown' hgrow (by repeat (first | exact Grew.refl _ | assumption | refine Grew.drew ?_ | refine Grew.alloc ?_ _ | refine Grew.setCell ?_ (by (try simp only [World.size_alloc, World.size_drew]); omega) _ | refine Grew.trans ?_ (by assumption))) HG.out (Nat.le_refl _) HG.out.size
                  have HO : Hid (Own w4 w.heap.size _ _) := hO1
                  have HG : Hid (Grew w w4) := hG1
                  clear hown' hgrow hO1 hG1 hB1
                  go_wp2_with fail
                  go_ret
                  exact ⟨⟨_, rfl, by rw [HL.out _ _ _ _ (if_pos (by omega)).symm (if_pos (by omega)).symm (if_pos (by omega)).symm (if_pos (by omega)).symm]; exact ((by first | exact HO.out | simpa using HO.out : Own _ w.heap.size _ _).grew (by repeat (first | exact Grew.refl _ | assumption | refine Grew.drew ?_ | refine Grew.alloc ?_ _ | refine Grew.setCell ?_ (by (try simp only [World.size_alloc, World.size_drew]); omega) _ | refine Grew.trans ?_ (by assumption)))).newInts (Nat.le_refl _)⟩, HG.out.trans (by repeat (first | exact Grew.refl _ | assumption | refine Grew.drew ?_ | refine Grew.alloc ?_ _ | refine Grew.setCell ?_ (by (try simp only [World.size_alloc, World.size_drew]); omega) _ | refine Grew.trans ?_ (by assumption)))⟩
              · go_wp2_with fail
                go_ret
                exact ⟨⟨_, rfl, by rw [HL.out _ _ _ _ (if_pos (by omega)).symm (if_pos (by omega)).symm (if_pos (by omega)).symm (if_neg (by omega)).symm]; exact ((by first | exact HO.out | simpa using HO.out : Own _ w.heap.size _ _).grew (by repeat (first | exact Grew.refl _ | assumption | refine Grew.drew ?_ | refine Grew.alloc ?_ _ | refine Grew.setCell ?_ (by (try simp only [World.size_alloc, World.size_drew]); omega) _ | refine Grew.trans ?_ (by assumption)))).newInts (Nat.le_refl _)⟩, HG.out.trans (by repeat (first | exact Grew.refl _ | assumption | refine Grew.drew ?_ | refine Grew.alloc ?_ _ | refine Grew.setCell ?_ (by (try simp only [World.size_alloc, World.size_drew]); omega) _ | refine Grew.trans ?_ (by assumption)))⟩
          · by_cases h3 : t + W < N
            · go_wp2_with (at_builtin; refine wpList_append_own _ rfl _ _ 28 rfl w.heap.size 3 i0 (.int .i64 0) 1 8 Tryd.underlying28 hi0 hi1 hi2 hi3 rfl (by decide) _ _ _ rfl (HO.out.grew (by repeat (first | exact Grew.refl _ | assumption | refine Grew.drew ?_ | refine Grew.alloc ?_ _ | refine Grew.setCell ?_ (by (try simp only [World.size_alloc, World.size_drew]); omega) _ | refine Grew.trans ?_ (by assumption)))).raw ⟨_, 0, none⟩ 1 1 [.int .i64 ((t : Int) + W)] rfl rfl ?c1 ?c2 ?c3 ?c4 ?c5 ?_)
              case c1 =>
                intro j u hj
                match j, hj with
                | 0, hj => simp at hj; subst hj; simp [Addr.add]
              case c2 => intro u hu; simp at hu; subst hu; rfl
              case c3 => simp; unfold maxLen; omega
              case c4 => simp
              case c5 => have := HG.out.size; simp <;> omega
              · intro v4 w4 hown' hgrow _
                obtain ⟨hO1, hG1, hB1⟩ := HO.out.nextG (a := w) hown' hgrow (by repeat (first | exact Grew.refl _ | assumption | refine Grew.drew ?_ | refine Grew.alloc ?_ _ | refine Grew.setCell ?_ (by (try simp only [World.size_alloc, World.size_drew]); omega) _ | refine Grew.trans ?_ (by assumption))) HG.out (Nat.le_refl _) HG.out.size
                have HO : Hid (Own w4 w.heap.size _ _) := hO1
                have HG : Hid (Grew w w4) := hG1
                clear hown' hgrow hO1 hG1 hB1
                go_wp2_with fail
                go_ret
                exact ⟨⟨_, rfl, by rw [HL.out _ _ _ _ (if_pos (by omega)).symm (if_pos (by omega)).symm (if_neg (by omega)).symm (if_pos (by omega)).symm]; exact ((by first | exact HO.out | simpa using HO.out : Own _ w.heap.size _ _).grew (by repeat (first | exact Grew.refl _ | assumption | refine Grew.drew ?_ | refine Grew.alloc ?_ _ | refine Grew.setCell ?_ (by (try simp only [World.size_alloc, World.size_drew]); omega) _ | refine Grew.trans ?_ (by assumption)))).newInts (Nat.le_refl _)⟩, HG.out.trans (by repeat (first | exact Grew.refl _ | assumption | refine Grew.drew ?_ | refine Grew.alloc ?_ _ | refine Grew.setCell ?_ (by (try simp only [World.size_alloc, World.size_drew]); omega) _ | refine Grew.trans ?_ (by assumption)))⟩
            · go_wp2_with fail
              go_ret
              exact ⟨⟨_, rfl, by rw [HL.out _ _ _ _ (if_pos (by omega)).symm (if_pos (by omega)).symm (if_neg (by omega)).symm (if_neg (by omega)).symm]; exact ((by first | exact HO.out | simpa using HO.out : Own _ w.heap.size _ _).grew (by repeat (first | exact Grew.refl _ | assumption | refine Grew.drew ?_ | refine Grew.alloc ?_ _ | refine Grew.setCell ?_ (by (try simp only [World.size_alloc, World.size_drew]); omega) _ | refine Grew.trans ?_ (by assumption)))).newInts (Nat.le_refl _)⟩, HG.out.trans (by repeat (first | exact Grew.refl _ | assumption | refine Grew.drew ?_ | refine Grew.alloc ?_ _ | refine Grew.setCell ?_ (by (try simp only [World.size_alloc, World.size_drew]); omega) _ | refine Grew.trans ?_ (by assumption)))⟩
      · by_cases h2 : W ≤ t
        · go_wp2_with (at_builtin; refine wpList_append_own _ rfl _ _ 28 rfl w.heap.size 3 i0 (.int .i64 0) 1 8 Tryd.underlying28 hi0 hi1 hi2 hi3 rfl (by decide) _ _ _ rfl (HO.out.grew (by repeat (first | exact Grew.refl _ | assumption | refine Grew.drew ?_ | refine Grew.alloc ?_ _ | refine Grew.setCell ?_ (by (try simp only [World.size_alloc, World.size_drew]); omega) _ | refine Grew.trans ?_ (by assumption)))).raw ⟨_, 0, none⟩ 1 1 [.int .i64 ((t : Int) - W)] rfl rfl ?c1 ?c2 ?c3 ?c4 ?c5 ?_)
          case c1 =>
            intro j u hj
            match j, hj with
            | 0, hj => simp at hj; subst hj; simp [Addr.add]
          case c2 => intro u hu; simp at hu; subst hu; rfl
          case c3 => simp; unfold maxLen; omega
          case c4 => simp
          case c5 => have := HG.out.size; simp <;> omega
          · intro v3 w3 hown' hgrow _
            obtain ⟨hO1, hG1, hB1⟩ := HO.out.nextG (a := w) hown' hgrow (by repeat (first | exact Grew.refl _ | assumption | refine Grew.drew ?_ | refine Grew.alloc ?_ _ | refine Grew.setCell ?_ (by (try simp only [World.size_alloc, World.size_drew]); omega) _ | refine Grew.trans ?_ (by assumption))) HG.out (Nat.le_refl _) HG.out.size
            have HO : Hid (Own w3 w.heap.size _ _) := hO1
            have HG : Hid (Grew w w3) := hG1
            clear hown' hgrow hO1 hG1 hB1
            by_cases h3 : t + W < N
            · go_wp2_with (at_builtin; refine wpList_append_own _ rfl _ _ 28 rfl w.heap.size 3 i0 (.int .i64 0) 1 8 Tryd.underlying28 hi0 hi1 hi2 hi3 rfl (by decide) _ _ _ rfl (HO.out.grew (by repeat (first | exact Grew.refl _ | assumption | refine Grew.drew ?_ | refine Grew.alloc ?_ _ | refine Grew.setCell ?_ (by (try simp only [World.size_alloc, World.size_drew]); omega) _ | refine Grew.trans ?_ (by assumption)))).raw ⟨_, 0, none⟩ 1 1 [.int .i64 ((t : Int) + W)] rfl rfl ?c1 ?c2 ?c3 ?c4 ?c5 ?_)
              case c1 =>
                intro j u hj
                match j, hj with
                | 0, hj => simp at hj; subst hj; simp [Addr.add]
              case c2 => intro u hu; simp at hu; subst hu; rfl
              case c3 => simp; unfold maxLen; omega
              case c4 => simp
              case c5 => have := HG.out.size; simp <;> omega
              · intro v4 w4 hown' hgrow _
                obtain ⟨hO1, hG1, hB1⟩ := HO.out.nextG (a := w) hown' hgrow (by repeat (first | exact Grew.refl _ | assumption | refine Grew.drew ?_ | refine Grew.alloc ?_ _ | refine Grew.setCell ?_ (by (try simp only [World.size_alloc, World.size_drew]); omega) _ | refine Grew.trans ?_ (by assumption))) HG.out (Nat.le_refl _) HG.out.size
                have HO : Hid (Own w4 w.heap.size _ _) := hO1
                have HG : Hid (Grew w w4) := hG1
                clear hown' hgrow hO1 hG1 hB1
                go_wp2_with fail
                go_ret
                exact ⟨⟨_, rfl, by rw [HL.out _ _ _ _ (if_pos (by omega)).symm (if_neg (by omega)).symm (if_pos (by omega)).symm (if_pos (by omega)).symm]; exact ((by first | exact HO.out | simpa using HO.out : Own _ w.heap.size _ _).grew (by repeat (first | exact Grew.refl _ | assumption | refine Grew.drew ?_ | refine Grew.alloc ?_ _ | refine Grew.setCell ?_ (by (try simp only [World.size_alloc, World.size_drew]); omega) _ | refine Grew.trans ?_ (by assumption)))).newInts (Nat.le_refl _)⟩, HG.out.trans (by repeat (first | exact Grew.refl _ | assumption | refine Grew.drew ?_ | refine Grew.alloc ?_ _ | refine Grew.setCell ?_ (by (try simp only [World.size_alloc, World.size_drew]); omega) _ | refine Grew.trans ?_ (by assumption)))⟩
            · go_wp2_with fail
              go_ret
              exact ⟨⟨_, rfl, by rw [HL.out _ _ _ _ (if_pos (by omega)).symm (if_neg (by omega)).symm (if_pos (by omega)).symm (if_neg (by omega)).symm]; exact ((by first | exact HO.out | simpa using HO.out : Own _ w.heap.size _ _).grew (by repeat (first | exact Grew.refl _ | assumption | refine Grew.drew ?_ | refine Grew.alloc ?_ _ | refine Grew.setCell ?_ (by (try simp only [World.size_alloc, World.size_drew]); omega) _ | refine Grew.trans ?_ (by assumption)))).newInts (Nat.le_refl _)⟩, HG.out.trans (by repeat (first | exact Grew.refl _ | assumption | refine Grew.drew ?_ | refine Grew.alloc ?_ _ | refine Grew.setCell ?_ (by (try simp only [World.size_alloc, World.size_drew]); omega) _ | refine Grew.trans ?_ (by assumption)))⟩
        · by_cases h3 : t + W < N
          · go_wp2_with (at_builtin; refine wpList_append_own _ rfl _ _ 28 rfl w.heap.size 3 i0 (.int .i64 0) 1 8 Tryd.underlying28 hi0 hi1 hi2 hi3 rfl (by decide) _ _ _ rfl (HO.out.grew (by repeat (first | exact Grew.refl _ | assumption | refine Grew.drew ?_ | refine Grew.alloc ?_ _ | refine Grew.setCell ?_ (by (try simp only [World.size_alloc, World.size_drew]); omega) _ | refine Grew.trans ?_ (by assumption)))).raw ⟨_, 0, none⟩ 1 1 [.int .i64 ((t : Int) + W)] rfl rfl ?c1 ?c2 ?c3 ?c4 ?c5 ?_)
            case c1 =>
              intro j u hj
              match j, hj with
              | 0, hj => simp at hj; subst hj; simp [Addr.add]
            case c2 => intro u hu; simp at hu; subst hu; rfl
            case c3 => simp; unfold maxLen; omega
            case c4 => simp
            case c5 => have := HG.out.size; simp <;> omega
            · intro v4 w4 hown' hgrow _
              obtain ⟨hO1, hG1, hB1⟩ := HO.out.nextG (a := w) hown' hgrow (by repeat (first | exact Grew.refl _ | assumption | refine Grew.drew ?_ | refine Grew.alloc ?_ _ | refine Grew.setCell ?_ (by (try simp only [World.size_alloc, World.size_drew]); omega) _ | refine Grew.trans ?_ (by assumption))) HG.out (Nat.le_refl _) HG.out.size
              have HO : Hid (Own w4 w.heap.size _ _) := hO1
              have HG : Hid (Grew w w4) := hG1
              clear hown' hgrow hO1 hG1 hB1
              go_wp2_with fail
              go_ret
              exact ⟨⟨_, rfl, by rw [HL.out _ _ _ _ (if_pos (by omega)).symm (if_neg (by omega)).symm (if_neg (by omega)).symm (if_pos (by omega)).symm]; exact ((by first | exact HO.out | simpa using HO.out : Own _ w.heap.size _ _).grew (by repeat (first | exact Grew.refl _ | assumption | refine Grew.drew ?_ | refine Grew.alloc ?_ _ | refine Grew.setCell ?_ (by (try simp only [World.size_alloc, World.size_drew]); omega) _ | refine Grew.trans ?_ (by assumption)))).newInts (Nat.le_refl _)⟩, HG.out.trans (by repeat (first | exact Grew.refl _ | assumption | refine Grew.drew ?_ | refine Grew.alloc ?_ _ | refine Grew.setCell ?_ (by (try simp only [World.size_alloc, World.size_drew]); omega) _ | refine Grew.trans ?_ (by assumption)))⟩
          · go_wp2_with fail
            go_ret
            exact ⟨⟨_, rfl, by rw [HL.out _ _ _ _ (if_pos (by omega)).symm (if_neg (by omega)).symm (if_neg (by omega)).symm (if_neg (by omega)).symm]; exact ((by first | exact HO.out | simpa using HO.out : Own _ w.heap.size _ _).grew (by repeat (first | exact Grew.refl _ | assumption | refine Grew.drew ?_ | refine Grew.alloc ?_ _ | refine Grew.setCell ?_ (by (try simp only [World.size_alloc, World.size_drew]); omega) _ | refine Grew.trans ?_ (by assumption)))).newInts (Nat.le_refl _)⟩, HG.out.trans (by repeat (first | exact Grew.refl _ | assumption | refine Grew.drew ?_ | refine Grew.alloc ?_ _ | refine Grew.setCell ?_ (by (try simp only [World.size_alloc, World.size_drew]); omega) _ | refine Grew.trans ?_ (by assumption)))⟩
  · by_cases h1 : r + 1 < W
    · go_wp2_with (at_builtin; refine wpList_append_own _ rfl _ _ 28 rfl w.heap.size 3 i0 (.int .i64 0) 1 8 Tryd.underlying28 hi0 hi1 hi2 hi3 rfl (by decide) _ _ _ rfl (HO.out.grew (by repeat (first | exact Grew.refl _ | assumption | refine Grew.drew ?_ | refine Grew.alloc ?_ _ | refine Grew.setCell ?_ (by (try simp only [World.size_alloc, World.size_drew]); omega) _ | refine Grew.trans ?_ (by assumption)))).raw ⟨_, 0, none⟩ 1 1 [.int .i64 ((t : Int) + 1)] rfl rfl ?c1 ?c2 ?c3 ?c4 ?c5 ?_)
      case c1 =>
        intro j u hj
        match j, hj with
        | 0, hj => simp at hj; subst hj; simp [Addr.add]
      case c2 => intro u hu; simp at hu; subst hu; rfl
      case c3 => simp; unfold maxLen; omega
      case c4 => simp
      case c5 => have := HG.out.size; simp <;> omega
      · intro v2 w2 hown' hgrow _
        obtain ⟨hO1, hG1, hB1⟩ := HO.out.nextG (a := w) hown' hgrow (by repeat (first | exact Grew.refl _ | assumption | refine Grew.drew ?_ | refine Grew.alloc ?_ _ | refine Grew.setCell ?_ (by (try simp only [World.size_alloc, World.size_drew]); omega) _ | refine Grew.trans ?_ (by assumption))) HG.out (Nat.le_refl _) HG.out.size
        have HO : Hid (Own w2 w.heap.size _ _) := hO1
        have HG : Hid (Grew w w2) := hG1
        clear hown' hgrow hO1 hG1 hB1
        by_cases h2 : W ≤ t
        · go_wp2_with (at_builtin; refine wpList_append_own _ rfl _ _ 28 rfl w.heap.size 3 i0 (.int .i64 0) 1 8 Tryd.underlying28 hi0 hi1 hi2 hi3 rfl (by decide) _ _ _ rfl (HO.out.grew (by repeat (first | exact Grew.refl _ | assumption | refine Grew.drew ?_ | refine Grew.alloc ?_ _ | refine Grew.setCell ?_ (by (try simp only [World.size_alloc, World.size_drew]); omega) _ | refine Grew.trans ?_ (by assumption)))).raw ⟨_, 0, none⟩ 1 1 [.int .i64 ((t : Int) - W)] rfl rfl ?c1 ?c2 ?c3 ?c4 ?c5 ?_)
          case c1 =>
            intro j u hj
            match j, hj with
            | 0, hj => simp at hj; subst hj; simp [Addr.add]
          case c2 => intro u hu; simp at hu; subst hu; rfl
          case c3 => simp; unfold maxLen; omega
          case c4 => simp
          case c5 => have := HG.out.size; simp <;> omega
          · intro v3 w3 hown' hgrow _
            obtain ⟨hO1, hG1, hB1⟩ := HO.out.nextG (a := w) hown' hgrow (by repeat (first | exact Grew.refl _ | assumption | refine Grew.drew ?_ | refine Grew.alloc ?_ _ | refine Grew.setCell ?_ (by (try simp only [World.size_alloc, World.size_drew]); omega) _ | refine Grew.trans ?_ (by assumption))) HG.out (Nat.le_refl _) HG.out.size
            have HO : Hid (Own w3 w.heap.size _ _) := hO1
            have HG : Hid (Grew w w3) := hG1
            clear hown' hgrow hO1 hG1 hB1
            by_cases h3 : t + W < N
            · go_wp2_with (at_builtin; refine wpList_append_own _ rfl _ _ 28 rfl w.heap.size 3 i0 (.int .i64 0) 1 8 Tryd.underlying28 hi0 hi1 hi2 hi3 rfl (by decide) _ _ _ rfl (HO.out.grew (by repeat (first | exact Grew.refl _ | assumption | refine Grew.drew ?_ | refine Grew.alloc ?_ _ | refine Grew.setCell ?_ (by (try simp only [World.size_alloc, World.size_drew]); omega) _ | refine Grew.trans ?_ (by assumption)))).raw ⟨_, 0, none⟩ 1 1 [.int .i64 ((t : Int) + W)] rfl rfl ?c1 ?c2 ?c3 ?c4 ?c5 ?_)
              case c1 =>
                intro j u hj
                match j, hj with
                | 0, hj => simp at hj; subst hj; simp [Addr.add]
              case c2 => intro u hu; simp at hu; subst hu; rfl
              case c3 => simp; unfold maxLen; omega
              case c4 => simp
              case c5 => have := HG.out.size; simp <;> omega
              · intro v4 w4 hown' hgrow _
                obtain ⟨hO1, hG1, hB1⟩ := HO.out.nextG (a := w) hown' hgrow (by repeat (first | exact Grew.refl _ | assumption | refine Grew.drew ?_ | refine Grew.alloc ?_ _ | refine Grew.setCell ?_ (by (try simp only [World.size_alloc, World.size_drew]); omega) _ | refine Grew.trans ?_ (by assumption))) HG.out (Nat.le_refl _) HG.out.size
                have HO : Hid (Own w4 w.heap.size _ _) := hO1
                have HG : Hid (Grew w w4) := hG1
                clear hown' hgrow hO1 hG1 hB1
                go_wp2_with fail
                go_ret
                exact ⟨⟨_, rfl, by rw [HL.out _ _ _ _ (if_neg (by omega)).symm (if_pos (by omega)).symm (if_pos (by omega)).symm (if_pos (by omega)).symm]; exact ((by first | exact HO.out | simpa using HO.out : Own _ w.heap.size _ _).grew (by repeat (first | exact Grew.refl _ | assumption | refine Grew.drew ?_ | refine Grew.alloc ?_ _ | refine Grew.setCell ?_ (by (try simp only [World.size_alloc, World.size_drew]); omega) _ | refine Grew.trans ?_ (by assumption)))).newInts (Nat.le_refl _)⟩, HG.out.trans (by repeat (first | exact Grew.refl _ | assumption | refine Grew.drew ?_ | refine Grew.alloc ?_ _ | refine Grew.setCell ?_ (by (try simp only [World.size_alloc, World.size_drew]); omega) _ | refine Grew.trans ?_ (by assumption)))⟩
            · go_wp2_with fail
              go_ret
              exact ⟨⟨_, rfl, by rw [HL.out _ _ _ _ (if_neg (by omega)).symm (if_pos (by omega)).symm (if_pos (by omega)).symm (if_neg (by omega)).symm]; exact ((by first | exact HO.out | simpa using HO.out : Own _ w.heap.size _ _).grew (by repeat (first | exact Grew.refl _ | assumption | refine Grew.drew ?_ | refine Grew.alloc ?_ _ | refine Grew.setCell ?_ (by (try simp only [World.size_alloc, World.size_drew]); omega) _ | refine Grew.trans ?_ (by assumption)))).newInts (Nat.le_refl _)⟩, HG.out.trans (by repeat (first | exact Grew.refl _ | assumption | refine Grew.drew ?_ | refine Grew.alloc ?_ _ | refine Grew.setCell ?_ (by (try simp only [World.size_alloc, World.size_drew]); omega) _ | refine Grew.trans ?_ (by assumption)))⟩
        · by_cases h3 : t + W < N
          · go_wp2_with (at_builtin; refine wpList_append_own _ rfl _ _ 28 rfl w.heap.size 3 i0 (.int .i64 0) 1 8 Tryd.underlying28 hi0 hi1 hi2 hi3 rfl (by decide) _ _ _ rfl (HO.out.grew (by repeat (first | exact Grew.refl _ | assumption | refine Grew.drew ?_ | refine Grew.alloc ?_ _ | refine Grew.setCell ?_ (by (try simp only [World.size_alloc, World.size_drew]); omega) _ | refine Grew.trans ?_ (by assumption)))).raw ⟨_, 0, none⟩ 1 1 [.int .i64 ((t : Int) + W)] rfl rfl ?c1 ?c2 ?c3 ?c4 ?c5 ?_)
            case c1 =>
              intro j u hj
              match j, hj with
              | 0, hj => simp at hj; subst hj; simp [Addr.add]
            case c2 => intro u hu; simp at hu; subst hu; rfl
            case c3 => simp; unfold maxLen; omega
            case c4 => simp
            case c5 => have := HG.out.size; simp <;> omega
            · intro v4 w4 hown' hgrow _
              obtain ⟨hO1, hG1, hB1⟩ := HO.out.nextG (a := w) hown' hgrow (by repeat (first | exact Grew.refl _ | assumption | refine Grew.drew ?_ | refine Grew.alloc ?_ _ | refine Grew.setCell ?_ (by (try simp only [World.size_alloc, World.size_drew]); omega) _ | refine Grew.trans ?_ (by assumption))) HG.out (Nat.le_refl _) HG.out.size
              have HO : Hid (Own w4 w.heap.size _ _) := hO1
              have HG : Hid (Grew w w4) := hG1
              clear hown' hgrow hO1 hG1 hB1
              go_wp2_with fail
              go_ret
              exact ⟨⟨_, rfl, by rw [HL.out _ _ _ _ (if_neg (by omega)).symm (if_pos (by omega)).symm (if_neg (by omega)).symm (if_pos (by omega)).symm]; exact ((by first | exact HO.out | simpa using HO.out : Own _ w.heap.size _ _).grew (by repeat (first | exact Grew.refl _ | assumption | refine Grew.drew ?_ | refine Grew.alloc ?_ _ | refine Grew.setCell ?_ (by (try simp only [World.size_alloc, World.size_drew]); omega) _ | refine Grew.trans ?_ (by assumption)))).newInts (Nat.le_refl _)⟩, HG.out.trans (by repeat (first | exact Grew.refl _ | assumption | refine Grew.drew ?_ | refine Grew.alloc ?_ _ | refine Grew.setCell ?_ (by (try simp only [World.size_alloc, World.size_drew]); omega) _ | refine Grew.trans ?_ (by assumption)))⟩
          · go_wp2_with fail
            go_ret
            exact ⟨⟨_, rfl, by rw [HL.out _ _ _ _ (if_neg (by omega)).symm (if_pos (by omega)).symm (if_neg (by omega)).symm (if_neg (by omega)).symm]; exact ((by first | exact HO.out | simpa using HO.out : Own _ w.heap.size _ _).grew (by repeat (first | exact Grew.refl _ | assumption | refine Grew.drew ?_ | refine Grew.alloc ?_ _ | refine Grew.setCell ?_ (by (try simp only [World.size_alloc, World.size_drew]); omega) _ | refine Grew.trans ?_ (by assumption)))).newInts (Nat.le_refl _)⟩, HG.out.trans (by repeat (first | exact Grew.refl _ | assumption | refine Grew.drew ?_ | refine Grew.alloc ?_ _ | refine Grew.setCell ?_ (by (try simp only [World.size_alloc, World.size_drew]); omega) _ | refine Grew.trans ?_ (by assumption)))⟩
    · by_cases h2 : W ≤ t
      · go_wp2_with (at_builtin; refine wpList_append_own _ rfl _ _ 28 rfl w.heap.size 3 i0 (.int .i64 0) 1 8 Tryd.underlying28 hi0 hi1 hi2 hi3 rfl (by decide) _ _ _ rfl (HO.out.grew (by repeat (first | exact Grew.refl _ | assumption | refine Grew.drew ?_ | refine Grew.alloc ?_ _ | refine Grew.setCell ?_ (by (try simp only [World.size_alloc, World.size_drew]); omega) _ | refine Grew.trans ?_ (by assumption)))).raw ⟨_, 0, none⟩ 1 1 [.int .i64 ((t : Int) - W)] rfl rfl ?c1 ?c2 ?c3 ?c4 ?c5 ?_)
        case c1 =>
          intro j u hj
          match j, hj with
          | 0, hj => simp at hj; subst hj; simp [Addr.add]
        case c2 => intro u hu; simp at hu; subst hu; rfl
        case c3 => simp; unfold maxLen; omega
        case c4 => simp
        case c5 => have := HG.out.size; simp <;> omega
        · intro v3 w3 hown' hgrow _
          obtain ⟨hO1, hG1, hB1⟩ := HO.out.nextG (a := w) hown' hgrow (by repeat (first | exact Grew.refl _ | assumption | refine Grew.drew ?_ | refine Grew.alloc ?_ _ | refine Grew.setCell ?_ (by (try simp only [World.size_alloc, World.size_drew]); omega) _ | refine Grew.trans ?_ (by assumption))) HG.out (Nat.le_refl _) HG.out.size
          have HO : Hid (Own w3 w.heap.size _ _) := hO1
          have HG : Hid (Grew w w3) := hG1
          clear hown' hgrow hO1 hG1 hB1
          by_cases h3 : t + W < N
          · go_wp2_with (at_builtin; refine wpList_append_own _ rfl _ _ 28 rfl w.heap.size 3 i0 (.int .i64 0) 1 8 Tryd.underlying28 hi0 hi1 hi2 hi3 rfl (by decide) _ _ _ rfl (HO.out.grew (by repeat (first | exact Grew.refl _ | assumption | refine Grew.drew ?_ | refine Grew.alloc ?_ _ | refine Grew.setCell ?_ (by (try simp only [World.size_alloc, World.size_drew]); omega) _ | refine Grew.trans ?_ (by assumption)))).raw ⟨_, 0, none⟩ 1 1 [.int .i64 ((t : Int) + W)] rfl rfl ?c1 ?c2 ?c3 ?c4 ?c5 ?_)
            case c1 =>
              intro j u hj
              match j, hj with
              | 0, hj => simp at hj; subst hj; simp [Addr.add]
            case c2 => intro u hu; simp at hu; subst hu; rfl
            case c3 => simp; unfold maxLen; omega
            case c4 => simp
            case c5 => have := HG.out.size; simp <;> omega
            · intro v4 w4 hown' hgrow _
              obtain ⟨hO1, hG1, hB1⟩ := HO.out.nextG (a := w) hown' hgrow (by repeat (first | exact Grew.refl _ | assumption | refine Grew.drew ?_ | refine Grew.alloc ?_ _ | refine Grew.setCell ?_ (by (try simp only [World.size_alloc, World.size_drew]); omega) _ | refine Grew.trans ?_ (by assumption))) HG.out (Nat.le_refl _) HG.out.size
              have HO : Hid (Own w4 w.heap.size _ _) := hO1
              have HG : Hid (Grew w w4) := hG1
              clear hown' hgrow hO1 hG1 hB1
              go_wp2_with fail
              go_ret
              exact ⟨⟨_, rfl, by rw [HL.out _ _ _ _ (if_neg (by omega)).symm (if_neg (by omega)).symm (if_pos (by omega)).symm (if_pos (by omega)).symm]; exact ((by first | exact HO.out | simpa using HO.out : Own _ w.heap.size _ _).grew (by repeat (first | exact Grew.refl _ | assumption | refine Grew.drew ?_ | refine Grew.alloc ?_ _ | refine Grew.setCell ?_ (by (try simp only [World.size_alloc, World.size_drew]); omega) _ | refine Grew.trans ?_ (by assumption)))).newInts (Nat.le_refl _)⟩, HG.out.trans (by repeat (first | exact Grew.refl _ | assumption | refine Grew.drew ?_ | refine Grew.alloc ?_ _ | refine Grew.setCell ?_ (by (try simp only [World.size_alloc, World.size_drew]); omega) _ | refine Grew.trans ?_ (by assumption)))⟩
          · go_wp2_with fail
            go_ret
            exact ⟨⟨_, rfl, by rw [HL.out _ _ _ _ (if_neg (by omega)).symm (if_neg (by omega)).symm (if_pos (by omega)).symm (if_neg (by omega)).symm]; exact ((by first | exact HO.out | simpa using HO.out : Own _ w.heap.size _ _).grew (by repeat (first | exact Grew.refl _ | assumption | refine Grew.drew ?_ | refine Grew.alloc ?_ _ | refine Grew.setCell ?_ (by (try simp only [World.size_alloc, World.size_drew]); omega) _ | refine Grew.trans ?_ (by assumption)))).newInts (Nat.le_refl _)⟩, HG.out.trans (by repeat (first | exact Grew.refl _ | assumption | refine Grew.drew ?_ | refine Grew.alloc ?_ _ | refine Grew.setCell ?_ (by (try simp only [World.size_alloc, World.size_drew]); omega) _ | refine Grew.trans ?_ (by assumption)))⟩
      · by_cases h3 : t + W < N
        · go_wp2_with (at_builtin; refine wpList_append_own _ rfl _ _ 28 rfl w.heap.size 3 i0 (.int .i64 0) 1 8 Tryd.underlying28 hi0 hi1 hi2 hi3 rfl (by decide) _ _ _ rfl (HO.out.grew (by repeat (first | exact Grew.refl _ | assumption | refine Grew.drew ?_ | refine Grew.alloc ?_ _ | refine Grew.setCell ?_ (by (try simp only [World.size_alloc, World.size_drew]); omega) _ | refine Grew.trans ?_ (by assumption)))).raw ⟨_, 0, none⟩ 1 1 [.int .i64 ((t : Int) + W)] rfl rfl ?c1 ?c2 ?c3 ?c4 ?c5 ?_)
          case c1 =>
            intro j u hj
            match j, hj with
            | 0, hj => simp at hj; subst hj; simp [Addr.add]
          case c2 => intro u hu; simp at hu; subst hu; rfl
          case c3 => simp; unfold maxLen; omega
          case c4 => simp
          case c5 => have := HG.out.size; simp <;> omega
          · intro v4 w4 hown' hgrow _
            obtain ⟨hO1, hG1, hB1⟩ := HO.out.nextG (a := w) hown' hgrow (by repeat (first | exact Grew.refl _ | assumption | refine Grew.drew ?_ | refine Grew.alloc ?_ _ | refine Grew.setCell ?_ (by (try simp only [World.size_alloc, World.size_drew]); omega) _ | refine Grew.trans ?_ (by assumption))) HG.out (Nat.le_refl _) HG.out.size
            have HO : Hid (Own w4 w.heap.size _ _) := hO1
            have HG : Hid (Grew w w4) := hG1
            clear hown' hgrow hO1 hG1 hB1
            go_wp2_with fail
            go_ret
            exact ⟨⟨_, rfl, by rw [HL.out _ _ _ _ (if_neg (by omega)).symm (if_neg (by omega)).symm (if_neg (by omega)).symm (if_pos (by omega)).symm]; exact ((by first | exact HO.out | simpa using HO.out : Own _ w.heap.size _ _).grew (by repeat (first | exact Grew.refl _ | assumption | refine Grew.drew ?_ | refine Grew.alloc ?_ _ | refine Grew.setCell ?_ (by (try simp only [World.size_alloc, World.size_drew]); omega) _ | refine Grew.trans ?_ (by assumption)))).newInts (Nat.le_refl _)⟩, HG.out.trans (by repeat (first | exact Grew.refl _ | assumption | refine Grew.drew ?_ | refine Grew.alloc ?_ _ | refine Grew.setCell ?_ (by (try simp only [World.size_alloc, World.size_drew]); omega) _ | refine Grew.trans ?_ (by assumption)))⟩
        · go_wp2_with fail
          go_ret
          exact ⟨⟨_, rfl, by rw [HL.out _ _ _ _ (if_neg (by omega)).symm (if_neg (by omega)).symm (if_neg (by omega)).symm (if_neg (by omega)).symm]; exact ((by first | exact HO.out | simpa using HO.out : Own _ w.heap.size _ _).grew (by repeat (first | exact Grew.refl _ | assumption | refine Grew.drew ?_ | refine Grew.alloc ?_ _ | refine Grew.setCell ?_ (by (try simp only [World.size_alloc, World.size_drew]); omega) _ | refine Grew.trans ?_ (by assumption)))).newInts (Nat.le_refl _)⟩, HG.out.trans (by repeat (first | exact Grew.refl _ | assumption | refine Grew.drew ?_ | refine Grew.alloc ?_ _ | refine Grew.setCell ?_ (by (try simp only [World.size_alloc, World.size_drew]); omega) _ | refine Grew.trans ?_ (by assumption)))⟩

/-- The blocked tiles lie in memory as a list of bools. -/
structure BoolsAt (w : World) (B N : Nat) (blk : Nat → Bool) : Prop where
  lt : B < w.heap.size
  cs : ∀ k, k < N → w.cell? ⟨B, k, none⟩ = some (.bool (blk k))
  fz : ∀ o, w.frozen? ⟨B, o, none⟩ = false
theorem BoolsAt.grew {w w' : World} {B N : Nat} {blk : Nat → Bool} (h : BoolsAt w B N blk) (g : Grew w w') : BoolsAt w' B N blk :=
  ⟨by have := g.size; have := h.lt; omega, fun k hk => (g.facts.1 _ _ h.lt).trans (h.cs k hk), fun o => (g.facts.2 _ _ h.lt).trans (h.fz o)⟩
theorem BoolsAt.turn2 {w w' : World} {B N C E : Nat} {blk : Nat → Bool} (h : BoolsAt w B N blk) (g : Turn2 C E w w') (h1 : B ≠ C) (h2 : B ≠ E) : BoolsAt w' B N blk :=
  ⟨by have := g.size; have := h.lt; omega, fun k hk => (g.facts.1 _ _ h.lt h1 h2).trans (h.cs k hk), fun o => (g.facts.2 _ _ h.lt h1 h2).trans (h.fz o)⟩
theorem BoolsAt.set {w : World} {B N t : Nat} {blk : Nat → Bool} (h : BoolsAt w B N blk) (ht : t < N) (x : Bool) : BoolsAt (w.setCell ⟨B, t, none⟩ (.bool x)) B N (fun k => if k = t then x else blk k) := by
  refine ⟨by simpa using h.lt, fun k hk => ?_, fun o => by rw [World.frozen?_setCell]; exact h.fz o⟩
  by_cases e : k = t
  · subst e; rw [if_pos rfl]; exact World.cell?_setCell_same _ _ _ (h.cs k hk)
  · rw [if_neg e, World.cell?_setCell_other _ _ _ _ (fun e' => e (congrArg Addr.off e'.symm))]; exact h.cs k hk
theorem BoolsAt.congr {w : World} {B N : Nat} {blk blk' : Nat → Bool} (h : BoolsAt w B N blk) (e : ∀ j, blk j = blk' j) : BoolsAt w B N blk' := by
  obtain rfl : blk = blk' := funext e
  exact h

set_option maxRecDepth 100000 in
set_option maxHeartbeats 8000000 in
theorem in_any (x : Int) (v : Option Addr) (n cap : Nat) (Ls : List Int) (w : World) (hn : n = Ls.length) (hL : n = 0 ∨ ∃ bb off, v = some ⟨bb, off, none⟩ ∧ bb < w.heap.size ∧ ∀ k y, Ls[k]? = some y → w.cell? ⟨bb, off + k, none⟩ = some (.int .i64 y)) (hn1 : n ≤ 100000) :
    Calls Tryd.prog 66 #[.slice v n cap, .int .i64 x] w fun e w' => e = .returned (.bool (Ls.contains x)) ∧ Grew w w' := by
  have HL : Hid (n = 0 ∨ ∃ bb off, v = some ⟨bb, off, none⟩ ∧ bb < w.heap.size ∧ ∀ k y, Ls[k]? = some y → w.cell? ⟨bb, off + k, none⟩ = some (.int .i64 y)) := hL
  have HN : Hid (n = Ls.length) := hn
  clear hL hn
  go_enter Tryd.func66, Tryd.ntmps66
  go_wp2_with fail
  go_loopw [9] (fun i wr => ∃ k : Nat, k ≤ n ∧ i = .int .i64 k ∧ x ∉ Ls.take k ∧ Grew w wr) (fun i wr => n - (intOf i).toNat)
  case atStart => exact ⟨0, Nat.zero_le _, by simp, by simp, (by repeat (first | exact Grew.refl _ | assumption | refine Grew.drew ?_ | refine Grew.alloc ?_ _ | refine Grew.setCell ?_ (by (try simp only [World.size_alloc, World.size_drew]); omega) _ | refine Grew.trans ?_ (by assumption)))⟩
  case round =>
    obtain ⟨k, hk, rfl, hX, hG⟩ := hrel
    have HX : Hid (x ∉ Ls.take k) := hX
    clear hX
    by_cases hlk : k < n
    · rcases HL.out with h0 | ⟨bb, off, rfl, hbb, hcs⟩
      · omega
      obtain ⟨y, hy⟩ : ∃ y, Ls[k]? = some y := ⟨Ls[k]'(by rw [← HN.out]; exact hlk), by simp⟩
      have hyc : wr.cell? ⟨bb, off + k, none⟩ = some (.int .i64 y) := (hG.facts.1 _ _ hbb).trans (hcs k y hy)
      have HY : Hid (Ls[k]? = some y) := hy
      clear hy hcs
      by_cases hxy : y = x
      · have HM : Hid (Ls.contains x = true) := by show _ = _; rw [List.contains_iff_mem, ← hxy]; exact List.mem_of_getElem? HY.out
        have e : (y == x) = true := by simpa using hxy
        clear hxy
        go_wp2_with fail
        go_ret
        exact ⟨by rw [HM.out]; rfl, (by repeat (first | exact Grew.refl _ | assumption | refine Grew.drew ?_ | refine Grew.alloc ?_ _ | refine Grew.setCell ?_ (by (try simp only [World.size_alloc, World.size_drew]); omega) _ | refine Grew.trans ?_ (by assumption)))⟩
      · have HX2 : Hid (x ∉ Ls.take (k + 1)) := by
          show ¬ _
          rw [List.take_add_one, HY.out]
          simp
          exact ⟨by simpa using HX.out, fun e => hxy e.symm⟩
        have e : (y == x) = false := by rw [beq_eq_false_iff_ne]; exact hxy
        clear hxy
        go_wp2_with fail
        go_roundw
        case rel => exact ⟨k + 1, by omega, by go_num, HX2.out, (by repeat (first | exact Grew.refl _ | assumption | refine Grew.drew ?_ | refine Grew.alloc ?_ _ | refine Grew.setCell ?_ (by (try simp only [World.size_alloc, World.size_drew]); omega) _ | refine Grew.trans ?_ (by assumption)))⟩
        case measure => simp [intOf]; omega
    · have HM : Hid (Ls.contains x = false) := by
        show _ = _
        have := HX.out
        rw [show k = n by omega, HN.out, List.take_length] at this
        simpa using this
      go_wp2_with fail
      go_ret
      exact ⟨by rw [HM.out]; rfl, (by repeat (first | exact Grew.refl _ | assumption | refine Grew.drew ?_ | refine Grew.alloc ?_ _ | refine Grew.setCell ?_ (by (try simp only [World.size_alloc, World.size_drew]); omega) _ | refine Grew.trans ?_ (by assumption)))⟩

theorem infoBool : (Tryd.prog.info? 4).map (fun i => (i.zero, i.size, i.bytes)) = some (some (.bool false), 1, 1) := by kernel_rfl
theorem made_bool {n k : Nat} (h : k < n) : (madeCells #[.bool false] n)[k]? = some (Value.bool false) := by
  simp [madeCells, h, Nat.mod_one]
set_option maxRecDepth 100000 in
set_option maxHeartbeats 4000000 in
theorem all_any (W H N : Nat) (S X Y : Int) (w : World) (hN : N = W * H) (hN1 : N ≤ 1024) (hN0 : 0 < N) :
    Calls Tryd.prog 45 #[.agg #[.int .i64 W, .int .i64 H, .int .i64 S, .int .i64 X, .int .i64 Y]] w fun e w' => (∃ B, e = .returned (.slice (some ⟨B, 0, none⟩) N N) ∧ BoolsAt w' B N (fun _ => false) ∧ w.heap.size ≤ B) ∧ Grew w w' := by
  have hNi : (W : Int) * (H : Int) = (N : Int) := by rw [hN]; push_cast; rfl
  have hw : IntKind.i64.wrap (N : Int) = N := IntWalk.i64_in _ (by omega)
  obtain ⟨i0, hi0, hi1, hi2, hi3⟩ := info_parts infoBool
  have hmk : ∀ w : World, (Instr.makeSlice 79 (.int .i64 N) (.int .i64 N)).run Tryd.prog w = .ok (.slice (some ⟨w.heap.size, 0, none⟩) N N) (w.alloc (.cells (madeCells #[.bool false] N) 4)) := fun w => by
    have := run_make (w := w) (P := Tryd.prog) 79 4 i0 (.bool false) Tryd.underlying79 hi0 hi1 .i64 .i64 N N (by omega) (by omega) (by rw [hi3]; omega) (by omega)
    rw [hi2] at this
    simpa [Value.cells] using this
  clear hN
  go_enter Tryd.func45, Tryd.ntmps45
  go_wp2_with fail
  go_ret
  refine ⟨⟨w.heap.size + 1, by simp, ⟨by simp, fun k hk => ?_, fun o => by simp [go_sem]⟩, by omega⟩, (by repeat (first | exact Grew.refl _ | assumption | refine Grew.drew ?_ | refine Grew.alloc ?_ _ | refine Grew.setCell ?_ (by (try simp only [World.size_alloc, World.size_drew]); omega) _ | refine Grew.trans ?_ (by assumption)))⟩
  simp [go_sem, made_bool hk]

/-- v is a list of the integers L that came in. -/
structure ListV (w : World) (v : Option Addr) (n cap : Nat) (L : List Int) : Prop where
  len : n = L.length
  at_ : n = 0 ∨ ∃ bb off, v = some ⟨bb, off, none⟩ ∧ n ≤ cap ∧ cap ≤ maxLen ∧ bb < w.heap.size ∧ ∀ k y, L[k]? = some y → w.cell? ⟨bb, off + k, none⟩ = some (.int .i64 y)
theorem ListV.grew {w w' : World} {v : Option Addr} {n cap : Nat} {L : List Int} (h : ListV w v n cap L) (g : Grew w w') : ListV w' v n cap L :=
  ⟨h.len, h.at_.imp id fun ⟨bb, off, e, h1, h2, h3, h4⟩ => ⟨bb, off, e, h1, h2, by have := g.size; omega, fun k y hy => (g.facts.1 _ _ h3).trans (h4 k y hy)⟩⟩
theorem ListV.ints {w : World} {v : Option Addr} {n cap : Nat} {L : List Int} (h : ListV w v n cap L) : IntsAt w (.slice v n cap) L := by
  obtain ⟨rfl, h⟩ := h
  refine ⟨v, cap, rfl, ?_⟩
  rcases h with h0 | ⟨bb, off, e, _, _, h3, h4⟩
  · exact .inl (List.length_eq_zero_iff.1 h0)
  · exact .inr ⟨bb, off, e, h3, h4⟩
theorem ListV.exists {w : World} {v : Option Addr} {n cap : Nat} (h : IntsIn w v n cap) : ∃ L, ListV w v n cap L := by
  rcases h with h0 | ⟨bb, off, e, h1, h2, h3, h4⟩
  · exact ⟨[], by simpa using h0, .inl h0⟩
  · have : ∀ m, m ≤ n → ∃ L : List Int, L.length = m ∧ ∀ k y, L[k]? = some y → w.cell? ⟨bb, off + k, none⟩ = some (.int .i64 y) := fun m => by
      induction m with
      | zero => exact fun _ => ⟨[], rfl, fun k y hy => by simp at hy⟩
      | succ m ih =>
        intro hm
        obtain ⟨L, hl, hL⟩ := ih (by omega)
        obtain ⟨y, hy⟩ := h4 m (by omega)
        refine ⟨L ++ [y], by simp [hl], fun k x hx => ?_⟩
        by_cases hk : k < L.length
        · rw [List.getElem?_append_left hk] at hx
          exact hL k x hx
        · rw [List.getElem?_append_right (by omega)] at hx
          have hk2 : k = m := by
            have := (List.getElem?_eq_some_iff.1 hx).1
            simp at this; omega
          subst hk2
          rw [hl] at hx
          simp at hx
          subst hx
          exact hy
    obtain ⟨L, hl, hL⟩ := this n (Nat.le_refl _)
    exact ⟨L, hl.symm, .inr ⟨bb, off, e, h1, h2, h3, hL⟩⟩

set_option maxRecDepth 100000 in
set_option maxHeartbeats 8000000 in
theorem rask_any (B N : Nat) (blk : Nat → Bool) (v : Option Addr) (n cap : Nat) (Ls : List Int) (now : Bool) (wrong : Int) (w : World) (hB : BoolsAt w B N blk) (hL : ListV w v n cap Ls) (hN : N ≤ 1024) (hn1 : n ≤ 100000) :
    Calls Tryd.prog 47 #[.slice (some ⟨B, 0, none⟩) N N, .slice v n cap, .bool now, .int .i64 wrong] w fun e w' => ((e = .returned (.int .i64 1) ∧ ¬ RngOk N Ls) ∨ (e = .returned (.int .i64 wrong) ∧ RngOk N Ls ∧ ¬ AskFr blk now Ls) ∨ (e = .returned (.int .i64 0) ∧ RngOk N Ls ∧ AskFr blk now Ls)) ∧ Grew w w' := by
  have HB : Hid (BoolsAt w B N blk) := hB
  have HN : Hid (n = Ls.length) := hL.len
  have HL : Hid (ListV w v n cap Ls) := hL
  clear hL hB
  go_enter Tryd.func47, Tryd.ntmps47
  go_wp2_with fail
  go_loopw [8, 15] (fun s8 i wr => ∃ k : Nat, k ≤ n ∧ s8 = .int .i64 0 ∧ i = .int .i64 k ∧ (∀ j x, j < k → Ls[j]? = some x → 0 ≤ x ∧ x < N) ∧ Grew w wr) (fun s8 i wr => n - (intOf i).toNat)
  case atStart => exact ⟨0, Nat.zero_le _, rfl, by simp, fun j x hj => by omega, (by repeat (first | exact Grew.refl _ | assumption | refine Grew.drew ?_ | refine Grew.alloc ?_ _ | refine Grew.setCell ?_ (by (try simp only [World.size_alloc, World.size_drew]); omega) _ | refine Grew.trans ?_ (by assumption)))⟩
  case round =>
    obtain ⟨k, hk, rfl, rfl, hX, hG⟩ := hrel
    have HX : Hid (∀ j x, j < k → Ls[j]? = some x → 0 ≤ x ∧ x < N) := hX
    have hzr := hG.size
    clear hX
    by_cases hlk : k < n
    · rcases HL.out.at_ with h0 | ⟨bb, off, rfl, hnc, hcm, hlt, hcs⟩
      · omega
      obtain ⟨y, hy⟩ : ∃ y, Ls[k]? = some y := ⟨Ls[k]'(by rw [← HN.out]; exact hlk), by simp⟩
      have hyc : wr.cell? ⟨bb, off + k, none⟩ = some (.int .i64 y) := (hG.facts.1 _ _ hlt).trans (hcs k y hy)
      have HY : Hid (Ls[k]? = some y) := hy
      clear hy hcs
      by_cases h0 : 0 ≤ y
      · by_cases h1 : y < N
        · have HX2 : Hid (∀ j x, j < k + 1 → Ls[j]? = some x → 0 ≤ x ∧ x < N) := fun j x hj hx => by
            by_cases e : j = k
            · subst e; rw [HY.out] at hx; obtain rfl := Option.some.inj hx; exact ⟨h0, h1⟩
            · exact HX.out j x (by omega) hx
          have d0 : decide (y < 0) = false := by simpa using h0
          have d1 : decide ((N : Int) ≤ y) = false := by simpa using h1
          clear h0 h1
          go_wp2_with fail
          go_roundw
          case rel => exact ⟨k + 1, by omega, rfl, by go_num, HX2.out, (by repeat (first | exact Grew.refl _ | assumption | refine Grew.drew ?_ | refine Grew.alloc ?_ _ | refine Grew.setCell ?_ (by (try simp only [World.size_alloc, World.size_drew]); omega) _ | refine Grew.trans ?_ (by assumption)))⟩
          case measure => simp [intOf]; omega
        · have HQ : Hid (¬ RngOk N Ls) := fun h => h1 (h k y HY.out).2
          have d0 : decide (y < 0) = false := by simpa using h0
          have d1 : decide ((N : Int) ≤ y) = true := by simpa using h1
          clear h0 h1
          go_wp2_with fail
          go_ret
          exact ⟨.inl ⟨rfl, HQ.out⟩, (by repeat (first | exact Grew.refl _ | assumption | refine Grew.drew ?_ | refine Grew.alloc ?_ _ | refine Grew.setCell ?_ (by (try simp only [World.size_alloc, World.size_drew]); omega) _ | refine Grew.trans ?_ (by assumption)))⟩
      · have HQ : Hid (¬ RngOk N Ls) := fun h => h0 (h k y HY.out).1
        have d0 : decide (y < 0) = true := by simpa using h0
        clear h0
        go_wp2_with fail
        go_ret
        exact ⟨.inl ⟨rfl, HQ.out⟩, (by repeat (first | exact Grew.refl _ | assumption | refine Grew.drew ?_ | refine Grew.alloc ?_ _ | refine Grew.setCell ?_ (by (try simp only [World.size_alloc, World.size_drew]); omega) _ | refine Grew.trans ?_ (by assumption)))⟩
    · have HRg : Hid (RngOk N Ls) := fun i x hx => HX.out i x (by have := (List.getElem?_eq_some_iff.1 hx).1; rw [← HN.out] at this; omega) hx
      have HG : Hid (Grew w wr) := hG
      clear HX hk
      go_wp2_with fail
      obtain ⟨wo, rfl⟩ : ∃ wo : World, wo = wr := ⟨_, rfl⟩
      go_loopw [8, 30] (fun s8 i wr => ∃ q : Nat, q ≤ n ∧ s8 = .int .i64 0 ∧ i = .int .i64 q ∧ (∀ j x, j < q → Ls[j]? = some x → (blk x.toNat = now) ∧ x ∉ Ls.take j) ∧ Grew w wr) (fun s8 i wr => n - (intOf i).toNat)
      case atStart => exact ⟨0, Nat.zero_le _, rfl, by simp, fun j x hj => by omega, HG.out.trans (by repeat (first | exact Grew.refl _ | assumption | refine Grew.drew ?_ | refine Grew.alloc ?_ _ | refine Grew.setCell ?_ (by (try simp only [World.size_alloc, World.size_drew]); omega) _ | refine Grew.trans ?_ (by assumption)))⟩
      case round =>
        obtain ⟨q, hq, rfl, rfl, hX, hG2⟩ := hrel
        have HX : Hid (∀ j x, j < q → Ls[j]? = some x → (blk x.toNat = now) ∧ x ∉ Ls.take j) := hX
        have HG2 : Hid (Grew w wr) := hG2
        have hzr2 := hG2.size
        clear hX
        by_cases hlq : q < n
        · rcases (HL.out.grew hG2).at_ with h0 | ⟨bb, off, rfl, hnc, hcm, hlt, hcs⟩
          · omega
          obtain ⟨y, hy⟩ : ∃ y, Ls[q]? = some y := ⟨Ls[q]'(by rw [← HN.out]; exact hlq), by simp⟩
          obtain ⟨h0, h1⟩ := HRg.out q y hy
          obtain ⟨t, rfl⟩ : ∃ t : Nat, y = t := ⟨y.toNat, by omega⟩
          have hyc : wr.cell? ⟨bb, off + q, none⟩ = some (.int .i64 t) := hcs q _ hy
          have HY : Hid (Ls[q]? = some (t : Int)) := hy
          have htN : t < N := by omega
          obtain ⟨z, hz⟩ : ∃ z, blk t = z := ⟨_, rfl⟩
          have htc : wr.cell? ⟨B, t, none⟩ = some (.bool z) := by rw [← hz]; exact (HB.out.grew hG2).cs t htN
          have HZ : Hid (blk t = z) := hz
          have HC : Hid (∀ wx, Grew wr wx → Calls Tryd.prog 66 #[.slice (some ⟨bb, off, none⟩) q cap, .int .i64 t] wx fun e w' => e = .returned (.bool ((Ls.take q).contains (t : Int))) ∧ Grew wx w') := fun wx g =>
            in_any _ _ q cap (Ls.take q) wx (by rw [List.length_take, ← HN.out]; omega) (.inr ⟨bb, off, rfl, by have := g.size; omega, fun k y hy2 => by
              rw [List.getElem?_take] at hy2
              split at hy2
              · exact (g.facts.1 _ _ hlt).trans (hcs k y hy2)
              · cases hy2⟩) (by omega)
          clear hy hz h0 h1 hcs
          cases hnw : z == now
          · have hne : (z != now) = true := by rw [bne, hnw]; rfl
            have HQ : Hid (¬ AskFr blk now Ls) := fun h => by
              have := (h q t HY.out).1
              simp only [Int.toNat_natCast] at this
              rw [HZ.out] at this
              rw [this] at hnw; simp at hnw
            clear hne
            cases z <;> cases now
            all_goals first
              | (simp at hnw; done)
              | (go_wp2_with fail
                 go_ret
                 exact ⟨.inr (.inl ⟨rfl, HRg.out, HQ.out⟩), HG2.out.trans (by repeat (first | exact Grew.refl _ | assumption | refine Grew.drew ?_ | refine Grew.alloc ?_ _ | refine Grew.setCell ?_ (by (try simp only [World.size_alloc, World.size_drew]); omega) _ | refine Grew.trans ?_ (by assumption)))⟩)
          · have hne : (z != now) = false := by rw [bne, hnw]; rfl
            have hzn : z = now := by simpa using hnw
            cases hin : (Ls.take q).contains (t : Int)
            · have HX2 : Hid (∀ j x, j < q + 1 → Ls[j]? = some x → (blk x.toNat = now) ∧ x ∉ Ls.take j) := fun j x hj hx => by
                by_cases e : j = q
                · subst e; rw [HY.out] at hx; obtain rfl := Option.some.inj hx
                  exact ⟨by simp only [Int.toNat_natCast]; rw [HZ.out, hzn], by simpa using hin⟩
                · exact HX.out j x (by omega) hx
              rw [hin] at HC
              clear hnw hin hne
              subst hzn
              cases z
              all_goals
                go_wp2_with (go_at_call 66; refine (HC.out _ (by repeat (first | exact Grew.refl _ | assumption | refine Grew.drew ?_ | refine Grew.alloc ?_ _ | refine Grew.setCell ?_ (by (try simp only [World.size_alloc, World.size_drew]); omega) _ | refine Grew.trans ?_ (by assumption)))).mono ?_; rintro e w5 ⟨rfl, hb⟩; obtain ⟨hc, hf⟩ := hb.facts; have hz := hb.size; (try simp only [World.size_alloc, World.size_drew] at hz))
                go_roundw
                case rel => exact ⟨q + 1, by omega, rfl, by go_num, HX2.out, HG2.out.trans (by repeat (first | exact Grew.refl _ | assumption | refine Grew.drew ?_ | refine Grew.alloc ?_ _ | refine Grew.setCell ?_ (by (try simp only [World.size_alloc, World.size_drew]); omega) _ | refine Grew.trans ?_ (by assumption)))⟩
                case measure => simp [intOf]; omega
            · have HQ : Hid (¬ AskFr blk now Ls) := fun h => (h q t HY.out).2 (by simpa using hin)
              rw [hin] at HC
              clear hnw hin hne
              subst hzn
              cases z
              all_goals
                go_wp2_with (go_at_call 66; refine (HC.out _ (by repeat (first | exact Grew.refl _ | assumption | refine Grew.drew ?_ | refine Grew.alloc ?_ _ | refine Grew.setCell ?_ (by (try simp only [World.size_alloc, World.size_drew]); omega) _ | refine Grew.trans ?_ (by assumption)))).mono ?_; rintro e w5 ⟨rfl, hb⟩; obtain ⟨hc, hf⟩ := hb.facts; have hz := hb.size; (try simp only [World.size_alloc, World.size_drew] at hz))
                go_ret
                exact ⟨.inr (.inl ⟨rfl, HRg.out, HQ.out⟩), HG2.out.trans (by repeat (first | exact Grew.refl _ | assumption | refine Grew.drew ?_ | refine Grew.alloc ?_ _ | refine Grew.setCell ?_ (by (try simp only [World.size_alloc, World.size_drew]); omega) _ | refine Grew.trans ?_ (by assumption)))⟩
        · have HA : Hid (AskFr blk now Ls) := fun i x hx => HX.out i x (by have := (List.getElem?_eq_some_iff.1 hx).1; rw [← HN.out] at this; omega) hx
          go_wp2_with fail
          go_ret
          exact ⟨.inr (.inr ⟨rfl, HRg.out, HA.out⟩), HG2.out.trans (by repeat (first | exact Grew.refl _ | assumption | refine Grew.drew ?_ | refine Grew.alloc ?_ _ | refine Grew.setCell ?_ (by (try simp only [World.size_alloc, World.size_drew]); omega) _ | refine Grew.trans ?_ (by assumption)))⟩
end Go.Proofs.YtbgbfljbjpbinaaDoor
namespace Go.Proofs.YtbgbfljbjpbinaaDoor
set_option linter.unusedSimpArgs false
set_option linter.unusedVariables false
open Go.RowKit

/-- A list of integers that came in, whether nil, empty or not, with what it holds. -/
def TilesV (w : World) (v : Option Addr) (n cap : Nat) (L : List Int) : Prop :=
  ListV w v n cap L ∧ ((v = none ∧ n = 0 ∧ cap = 0) ∨ ∃ a, v = some a)
theorem TilesV.grew {w w' : World} {v : Option Addr} {n cap : Nat} {L : List Int} (h : TilesV w v n cap L) (g : Grew w w') : TilesV w' v n cap L := ⟨h.1.grew g, h.2⟩
def marks : List Int := [-91, -92, -93, -94]
theorem Own.more {a wr wx w1 : World} {B m : Nat} {v v' : Value} {L us : List Int} (h : Own wr B v L) (hm : m = us.length) (hown : w1.ownsRow B 3 1 v' (L.length + m) (L.map (Value.int .i64) ++ us.map (Value.int .i64))) (hg : wx.grownBy w1 v.ownBlock) (g : Grew wr wx) (ga : Grew a wr) (hB : a.heap.size ≤ B) (hBr : B ≤ wr.heap.size) :
    Own w1 B v' (L ++ us) ∧ Grew a w1 := by
  have hs := g.size
  have hb : Below B wr w1 := Below.grown (g.below.mono hBr) hg (by omega) (fun k hk => (h.raw.lt k hk).1)
  refine ⟨?_, ga.below.trans (hb.mono hB)⟩
  subst hm
  unfold Own
  rw [List.length_append, List.map_append]
  exact hown
theorem Own.listAt {w : World} {B : Nat} {v : Value} {L : List Int} (h : Own w B v L) (hn : 0 < L.length) : ∃ g cap, v = .slice (some ⟨g, 0, none⟩) L.length cap ∧ ListAt w g 0 cap L ∧ B ≤ g := by
  rcases h.raw.2 with ⟨_, e⟩ | ⟨g, cap, cur, rfl, hb, hgg, hc, hm, hs, ht⟩
  · omega
  · refine ⟨g, cap, rfl, ⟨hc, hm, (Array.getElem?_eq_some_iff.1 hgg).1, fun k x hx => ?_⟩, hb⟩
    have hk : k < L.length := (List.getElem?_eq_some_iff.1 hx).1
    rw [Nat.zero_add, cell_of_row w g k cur 3 (0, 0) hgg]
    have hu : (L.map (Value.int .i64))[k]? = some (.int .i64 x) := by rw [List.getElem?_map, hx]; rfl
    rw [← ht, List.getElem?_take, if_pos (by omega)] at hu
    simpa using hu

set_option maxRecDepth 100000 in
theorem own_room (w : World) (cs : Array Value) (m : Nat) (hs : cs.size = m) (hm : m ≤ maxLen) : Own (w.alloc (.cells cs 3)) w.heap.size (.slice (some ⟨w.heap.size, 0, none⟩) 0 m) [] :=
  ⟨rfl, .inr ⟨w.heap.size, m, cs, rfl, Nat.le_refl _, by show (w.heap.push _)[w.heap.size]? = some _; simp only [Array.getElem?_push_size], Nat.zero_le _, hm, by rw [hs, Nat.mul_one], by simp⟩⟩
set_option maxRecDepth 100000 in
theorem mk_room (w : World) (m : Nat) (hm : m ≤ 1000) : (Instr.makeSlice 28 (.int .i64 0) (.int .i64 (m : Int))).run Tryd.prog w = .ok (.slice (some ⟨w.heap.size, 0, none⟩) 0 m) (w.alloc (.cells (madeCells #[.int .i64 0] m) 3)) := by
  obtain ⟨i0, hi0, hi1, hi2, hi3⟩ := info_parts infoInt
  have := run_make (w := w) (P := Tryd.prog) 28 3 i0 (.int .i64 0) Tryd.underlying28 hi0 hi1 .i64 .i64 0 m (by omega) (by omega) (by rw [hi3]; omega) (by omega)
  rw [hi2] at this
  simpa [Value.cells] using this
set_option maxRecDepth 100000 in
set_option maxHeartbeats 8000000 in
theorem pints_any (v : Option Addr) (n cap : Nat) (Ls : List Int) (w : World) (hL : TilesV w v n cap Ls) (hn : n ≤ 200) :
    Calls Tryd.prog 46 #[.slice v n cap] w fun e w' => (∃ g c, e = .returned (.slice (some ⟨g, 0, none⟩) n c) ∧ ListAt w' g 0 c (Ls ++ marks) ∧ w.heap.size ≤ g) ∧ Grew w w' := by
  have HL : Hid (ListV w v n cap Ls) := hL.1
  have HN : Hid (n = Ls.length) := hL.1.len
  obtain ⟨i0, hi0, hi1, hi2, hi3⟩ := info_parts infoInt
  have hmk : ∀ w : World, (Instr.makeSlice 28 (.int .i64 0) (.int .i64 ((n : Int) + 4))).run Tryd.prog w = .ok (.slice (some ⟨w.heap.size, 0, none⟩) 0 (n + 4)) (w.alloc (.cells (madeCells #[.int .i64 0] (n + 4)) 3)) := fun w => by
    have := mk_room w (n + 4) (by omega)
    push_cast at this
    exact this
  have HO0 : Hid (Own (w.alloc (.cells (madeCells #[.int .i64 0] (n + 4)) 3)) w.heap.size (.slice (some ⟨w.heap.size, 0, none⟩) 0 (n + 4)) []) := own_room w _ (n + 4) (by simp [madeCells]) (by unfold maxLen; omega)
  have hlen : (Ls ++ marks).length = n + 4 := by rw [List.length_append, ← HN.out]; rfl
  have HLEN : Hid ((Ls ++ marks).length = n + 4) := hlen
  have hcase := hL.2
  clear hL hlen
  have fin : ∀ (v5 : Value) (w5 : World), Own w5 w.heap.size v5 (Ls ++ marks) → ∃ g c, v5 = .slice (some ⟨g, 0, none⟩) (n + 4) c ∧ n + 4 ≤ c ∧ c ≤ maxLen ∧ ListAt w5 g 0 c (Ls ++ marks) ∧ w.heap.size ≤ g := fun v5 w5 h => by
    obtain ⟨g, c, e, hl, hg⟩ := h.listAt (by rw [HLEN.out]; omega)
    refine ⟨g, c, by rw [e, HLEN.out], by have := hl.room; rw [HLEN.out] at this; exact this, hl.top, hl, hg⟩
  rcases hcase with ⟨rfl, rfl, rfl⟩ | ⟨ad, rfl⟩
  · have hnil : Ls = [] := List.length_eq_zero_iff.1 HN.out.symm
    subst hnil
    have hmk0 : ∀ w : World, (Instr.makeSlice 28 (.int .i64 0) (.int .i64 4)).run Tryd.prog w = .ok (.slice (some ⟨w.heap.size, 0, none⟩) 0 4) (w.alloc (.cells (madeCells #[.int .i64 0] 4) 3)) := fun w => mk_room w 4 (by omega)
    go_enter Tryd.func46, Tryd.ntmps46
    go_wp2_with (first | (at_builtin; refine wpList_append_own_none _ rfl _ _ 28 rfl w.heap.size 3 i0 1 Tryd.underlying28 hi0 _ _ _ rfl HO0.out.raw rfl ?_) | (at_builtin; refine wpList_append_own _ rfl _ _ 28 rfl w.heap.size 3 i0 (.int .i64 0) 1 8 Tryd.underlying28 hi0 hi1 hi2 hi3 rfl (by decide) _ _ _ rfl (HO0.out.raw.alloc _) ⟨_, 0, none⟩ 4 4 [.int .i64 (-91), .int .i64 (-92), .int .i64 (-93), .int .i64 (-94)] rfl rfl ?c1 ?c2 ?c3 ?c4 ?c5 ?_))
    case c1 =>
      intro j u hj
      match j, hj with
      | 0, hj => simp at hj; subst hj; simp [Addr.add]
      | 1, hj => simp at hj; subst hj; simp [Addr.add]
      | 2, hj => simp at hj; subst hj; simp [Addr.add]
      | 3, hj => simp at hj; subst hj; simp [Addr.add]
    case c2 => intro u hu; simp at hu; rcases hu with rfl | rfl | rfl | rfl <;> rfl
    case c3 => simp; unfold maxLen; omega
    case c4 => simp
    case c5 => first | (simp; done) | (simp; omega)
    · intro v6 w6 hown6 hg6 _
      obtain ⟨hO6, hG6⟩ := Own.more (a := w) (us := marks) HO0.out rfl hown6 hg6 (Grew.alloc (Grew.refl _) _) ((Grew.refl _).alloc _) (Nat.le_refl _) (by simp)
      obtain ⟨g, c, rfl, hc1, hc2, hl6, hg0⟩ := fin v6 w6 hO6
      have HL6 : Hid (ListAt w6 g 0 c ([] ++ marks)) := hl6
      clear hown6 hg6 hO6 hl6
      go_wp2
      go_ret
      exact ⟨⟨g, c, rfl, HL6.out, hg0⟩, hG6⟩
  · go_enter Tryd.func46, Tryd.ntmps46
    go_wp2_with (at_builtin; refine wpList_append_own _ rfl _ _ 28 rfl w.heap.size 3 i0 (.int .i64 0) 1 8 Tryd.underlying28 hi0 hi1 hi2 hi3 rfl (by decide) _ _ _ rfl HO0.out.raw ad n cap (Ls.map (Value.int .i64)) rfl (by rw [List.length_map, ← HN.out]; simp) ?c1 ?c2 ?c3 ?c4 ?c5 ?_)
    case c1 =>
      intro j u hj
      rw [List.getElem?_map] at hj
      obtain ⟨y, hy, rfl⟩ := Option.map_eq_some_iff.1 hj
      rcases HL.out.at_ with h0 | ⟨bb, off, e, _, _, hbb, hcs⟩
      · have := (List.getElem?_eq_some_iff.1 hy).1
        rw [← HN.out] at this; omega
      · cases e
        have e2 : (⟨bb, off, none⟩ : Addr).add j = ⟨bb, off + j, none⟩ := by simp [Addr.add]
        rw [e2]
        exact (World.cell?_alloc_lt _ _ _ (by simpa using hbb)).trans (hcs j y hy)
    case c2 => intro u hu; obtain ⟨y, _, rfl⟩ := List.mem_map.1 hu; rfl
    case c3 => simp; unfold maxLen; omega
    case c4 => simp; omega
    case c5 => simp
    intro v5 w5 hown5 hg5 _
    obtain ⟨hO5, hG5⟩ := Own.more (a := w) (us := Ls) HO0.out HN.out (by simpa using hown5) hg5 (Grew.refl _) ((Grew.refl _).alloc _) (Nat.le_refl _) (by simp)
    have HO5 : Hid (Own w5 w.heap.size v5 Ls) := by rw [List.nil_append] at hO5; exact hO5
    have HG5 : Hid (Grew w w5) := hG5
    have hz5 := hG5.size
    clear hown5 hg5 hO5 hG5
    go_wp2_with (at_builtin; refine wpList_append_own _ rfl _ _ 28 rfl w.heap.size 3 i0 (.int .i64 0) 1 8 Tryd.underlying28 hi0 hi1 hi2 hi3 rfl (by decide) _ _ _ rfl (HO5.out.raw.alloc _) ⟨_, 0, none⟩ 4 4 [.int .i64 (-91), .int .i64 (-92), .int .i64 (-93), .int .i64 (-94)] rfl rfl ?c1 ?c2 ?c3 ?c4 ?c5 ?_)
    case c1 =>
      intro j u hj
      match j, hj with
      | 0, hj => simp at hj; subst hj; simp [Addr.add]
      | 1, hj => simp at hj; subst hj; simp [Addr.add]
      | 2, hj => simp at hj; subst hj; simp [Addr.add]
      | 3, hj => simp at hj; subst hj; simp [Addr.add]
    case c2 => intro u hu; simp at hu; rcases hu with rfl | rfl | rfl | rfl <;> rfl
    case c3 => have := HN.out; unfold maxLen; omega
    case c4 => have := HN.out; omega
    case c5 => first | omega | (simp; omega)
    · intro v6 w6 hown6 hg6 _
      obtain ⟨hO6, hG6⟩ := Own.more (a := w) (us := marks) HO5.out rfl hown6 hg6 (Grew.alloc (Grew.refl _) _) (HG5.out) (Nat.le_refl _) (by omega)
      obtain ⟨g, c, rfl, hc1, hc2, hl6, hg0⟩ := fin v6 w6 hO6
      have HL6 : Hid (ListAt w6 g 0 c (Ls ++ marks)) := hl6
      clear hown6 hg6 hO6 hl6
      go_wp2
      go_ret
      exact ⟨⟨g, c, rfl, HL6.out, hg0⟩, hG6⟩

set_option maxRecDepth 100000 in
set_option maxHeartbeats 8000000 in
theorem kept_any (g c : Nat) (v : Option Addr) (n cap : Nat) (Ls : List Int) (w : World) (hI : ListAt w g 0 c (Ls ++ marks)) (hL : ListV w v n cap Ls) (hn : n ≤ 200) :
    Calls Tryd.prog 49 #[.slice (some ⟨g, 0, none⟩) n c, .slice v n cap] w fun e w' => e = .returned (.bool true) ∧ Grew w w' := by
  have HI : Hid (ListAt w g 0 c (Ls ++ marks)) := hI
  have HL : Hid (ListV w v n cap Ls) := hL
  have HN : Hid (n = Ls.length) := hL.len
  have hroom := hI.room
  have htop := hI.top
  have hlt := hI.lt
  rw [List.length_append, ← HN.out, show marks.length = 4 from rfl] at hroom
  have HA : Hid (IntsAt w (.slice (some ⟨g, 0, none⟩) n c) Ls) := by
    rw [HN.out]
    exact ⟨some ⟨g, 0, none⟩, c, rfl, .inr ⟨g, 0, rfl, hlt, fun k x hx => hI.cs k x (by rw [List.getElem?_append_left (List.getElem?_eq_some_iff.1 hx).1]; exact hx)⟩⟩
  have HB : Hid (IntsAt w (.slice v n cap) Ls) := hL.ints
  have HM : Hid (∀ i : Nat, i < 4 → ∃ x : Int, x = -91 - (i : Int) ∧ w.cell? ⟨g, n + i, none⟩ = some (.int .i64 x)) := fun i hi => by
    refine ⟨-91 - (i : Int), rfl, ?_⟩
    have := hI.cs (n + i) (-91 - (i : Int)) (by
      rw [List.getElem?_append_right (by rw [← HN.out]; omega), ← HN.out, Nat.add_sub_cancel_left]
      match i, hi with
      | 0, _ => rfl
      | 1, _ => rfl
      | 2, _ => rfl
      | 3, _ => rfl)
    rwa [Nat.zero_add] at this
  unfold maxLen at htop
  clear hI hL
  go_enter Tryd.func49, Tryd.ntmps49
  go_wp2_with fail
  (go_at_call 14; refine (same_eq _ _ Ls _ (HA.out.grew (by repeat (first | exact Grew.refl _ | assumption | refine Grew.drew ?_ | refine Grew.alloc ?_ _ | refine Grew.setCell ?_ (by (try simp only [World.size_alloc, World.size_drew]); omega) _ | refine Grew.trans ?_ (by assumption)))) (HB.out.grew (by repeat (first | exact Grew.refl _ | assumption | refine Grew.drew ?_ | refine Grew.alloc ?_ _ | refine Grew.setCell ?_ (by (try simp only [World.size_alloc, World.size_drew]); omega) _ | refine Grew.trans ?_ (by assumption)))) (by rw [← HN.out]; omega)).mono ?_; rintro e w1 ⟨rfl, hb⟩; obtain ⟨hc, hf⟩ := hb.facts; have hz := hb.size; (try simp only [World.size_alloc, World.size_drew] at hz); (try (have hcq := fun o => hc (g) o (by (try simp only [World.size_alloc, World.size_drew]); omega))); (try (have hq : g < w1.heap.size := by omega)))
  have hG1 : Grew w w1 := (by repeat (first | exact Grew.refl _ | assumption | refine Grew.drew ?_ | refine Grew.alloc ?_ _ | refine Grew.setCell ?_ (by (try simp only [World.size_alloc, World.size_drew]); omega) _ | refine Grew.trans ?_ (by assumption)))
  go_wp2_with fail
  go_loopw [6] (fun s6 wr => ∃ i : Nat, i ≤ 4 ∧ s6 = .int .i64 i ∧ Grew w wr) (fun s6 wr => 4 - (intOf s6).toNat)
  case atStart => exact ⟨0, by omega, by simp, hG1.trans (by repeat (first | exact Grew.refl _ | assumption | refine Grew.drew ?_ | refine Grew.alloc ?_ _ | refine Grew.setCell ?_ (by (try simp only [World.size_alloc, World.size_drew]); omega) _ | refine Grew.trans ?_ (by assumption)))⟩
  case round =>
    obtain ⟨i, hi, rfl, hG⟩ := hrel
    by_cases hlt4 : i < 4
    · obtain ⟨x, hx, hc⟩ := HM.out i hlt4
      have hxc := (hG.facts.1 _ _ hlt).trans hc
      have hne : (x != -91 - (i : Int)) = false := by rw [hx]; simp
      clear hc
      go_wp2_with fail
      go_roundw
      case rel => exact ⟨i + 1, by omega, by go_num, hG⟩
      case measure => simp [intOf]; omega
    · go_wp2_with fail
      go_ret
      exact ⟨rfl, hG⟩
end Go.Proofs.YtbgbfljbjpbinaaDoor
namespace Go.Proofs.YtbgbfljbjpbinaaDoor
set_option linter.unusedSimpArgs false
set_option linter.unusedVariables false

/-- Any two operations wait for each other, or stay apart. -/
def apartAll (md : Region.Mode) (ops : Array Oper) : Bool :=
  (List.range ops.size).all fun i => (List.range ops.size).all fun j => match ops[i]?, ops[j]? with
    | some oi, some oj => j == i || oj.after.any (fun e => Region.binds md e && e.on == i) || oi.after.any (fun e => Region.binds md e && e.on == j) || oi.apart ops oj
    | _, _ => true
structure Calm (md : Region.Mode) (ops : Array Oper) : Prop where
  ns : Region.noSelect ops = true
  ap : apartAll md ops = true
theorem Calm.free {md : Region.Mode} {ops : Array Oper} (h : Calm md ops) {i : Nat} {oi : Oper} {listed : Array Bool} (hi : ops[i]? = some oi) (ha : oi.after.all (fun e => !Region.binds md e || listed.getD e.on false) = true) : Region.free md ops listed i = true := by
  have h1 := h.ap
  unfold apartAll at h1
  simp only [List.all_eq_true, List.mem_range] at h1
  have h2 := h1 i (Array.getElem?_eq_some_iff.1 hi).1
  unfold Region.free
  rw [hi]
  simp only [List.all_eq_true, List.mem_range]
  intro j hj
  have h3 := h2 j hj
  rw [hi] at h3
  cases hoj : ops[j]? with
  | none => simp
  | some oj =>
    rw [hoj] at h3
    simp only [Bool.or_eq_true] at h3 ⊢
    rcases h3 with ((h3 | h3) | h3) | h3
    · exact .inl (.inl h3)
    · exact .inr (.inl h3)
    · obtain ⟨e, he, hb⟩ := Array.any_eq_true'.1 h3
      simp only [Bool.and_eq_true, beq_iff_eq] at hb
      have h4 := Array.all_eq_true_iff_forall_mem.1 ha e he
      rw [hb.1] at h4
      simp only [Bool.not_true, Bool.false_or] at h4
      rw [hb.2] at h4
      refine .inl (.inr ?_)
      rw [Array.getD_eq_getD_getElem?] at h4 ⊢
      cases hl : listed[j]? with
      | none => simp [hl] at h4
      | some x => simp [hl] at h4 ⊢; exact h4
    · exact .inr (.inr h3)
theorem ready_has {md : Region.Mode} {ops : Array Oper} {i : Nat} {oi : Oper} {listed : Array Bool} (hi : ops[i]? = some oi) (hl : listed.getD i true = false) (ha : oi.after.all (fun e => !Region.binds md e || listed.getD e.on false) = true) : (Region.ready md ops listed).contains i = true := by
  unfold Region.ready
  rw [List.contains_iff_mem, List.mem_filter]
  refine ⟨List.mem_range.2 (Array.getElem?_eq_some_iff.1 hi).1, ?_⟩
  rw [hl, hi]
  simpa using ha
/-- Take number i first, in a region that is calm. -/
theorem wpAnyH_calm {P : Program} {ops : Array Oper} {Q : Exit → Act → World → Prop} {md : Region.Mode} {S : World → Prop} {i : Nat} {oi : Oper} {v : Value} {fuel : Nat} {listed : Array Bool} {a : Act} {w : World} (hC : Calm md ops) (hi : ops[i]? = some oi)
    (hl : listed.getD i true = false) (ha : oi.after.all (fun e => !Region.binds md e || listed.getD e.on false) = true)
    (hQ : ∀ c a w, Q (.panic c) (a.put oi.dst v) w → Q (.panic c) a w) (hy : YieldsIf P ops S oi v a) (hS : S w)
    (h : wpAnyH P md ops Q S fuel (listed.setIfInBounds i true) (a.put oi.dst v) w) : wpAnyH P md ops Q S (fuel + 1) listed a w :=
  wpAnyH_take hi hC.ns (hC.free hi ha) (ready_has hi hl ha) hQ hy hS h
theorem wpAnyH_asked {P : Program} {ops : Array Oper} {Q : Exit → Act → World → Prop} {md : Region.Mode} {S : World → Prop} {fuel : Nat} {listed : Array Bool} {a : Act} {w : World} (h1 : Region.noSelect ops = true) (h2 : apartAll md ops = true) (h : Calm md ops → wpAnyH P md ops Q S fuel listed a w) : wpAnyH P md ops Q S fuel listed a w := h ⟨h1, h2⟩
end Go.Proofs.YtbgbfljbjpbinaaDoor
namespace Go.Proofs.YtbgbfljbjpbinaaDoor
set_option linter.unusedSimpArgs false
set_option linter.unusedVariables false
open Go.RowKit

set_option maxHeartbeats 4000000 in
theorem num_State (w : World) (ad : Nat → Addr) (hE : Errs w ad) :
    Calls Tryd.prog 27 #[.iface 130 (.pointer (some (ad 6)))] w fun e w' => e = .returned (.int .i64 6) ∧ Grew w w' := by
  have k0 := hE.cell 0 (by decide)
  have k1 := hE.cell 1 (by decide)
  have k2 := hE.cell 2 (by decide)
  have k3 := hE.cell 3 (by decide)
  have k4 := hE.cell 4 (by decide)
  have k5 := hE.cell 5 (by decide)
  have k6 := hE.cell 6 (by decide)
  have k7 := hE.cell 7 (by decide)
  have k8 := hE.cell 8 (by decide)
  have k9 := hE.cell 9 (by decide)
  obtain ⟨cRange, tRange, rRange⟩ := hE.row 1 (by decide)
  obtain ⟨cFull, tFull, rFull⟩ := hE.row 2 (by decide)
  obtain ⟨cNone, tNone, rNone⟩ := hE.row 3 (by decide)
  obtain ⟨cExists, tExists, rExists⟩ := hE.row 4 (by decide)
  obtain ⟨cKind, tKind, rKind⟩ := hE.row 5 (by decide)
  obtain ⟨cState, tState, rState⟩ := hE.row 6 (by decide)
  have nRange : Hid (ad 6 ≠ ad 1) := hE.ne 6 1 (by decide) (by decide) (by decide)
  have nFull : Hid (ad 6 ≠ ad 2) := hE.ne 6 2 (by decide) (by decide) (by decide)
  have nNone : Hid (ad 6 ≠ ad 3) := hE.ne 6 3 (by decide) (by decide) (by decide)
  have nExists : Hid (ad 6 ≠ ad 4) := hE.ne 6 4 (by decide) (by decide) (by decide)
  have nKind : Hid (ad 6 ≠ ad 5) := hE.ne 6 5 (by decide) (by decide) (by decide)
  have RRange : Hid (w.heap[(ad 1).block]? = some (.cells cRange tRange (0, 0))) := rRange; clear rRange
  have RFull : Hid (w.heap[(ad 2).block]? = some (.cells cFull tFull (0, 0))) := rFull; clear rFull
  have RNone : Hid (w.heap[(ad 3).block]? = some (.cells cNone tNone (0, 0))) := rNone; clear rNone
  have RExists : Hid (w.heap[(ad 4).block]? = some (.cells cExists tExists (0, 0))) := rExists; clear rExists
  have RKind : Hid (w.heap[(ad 5).block]? = some (.cells cKind tKind (0, 0))) := rKind; clear rKind
  have RState : Hid (w.heap[(ad 6).block]? = some (.cells cState tState (0, 0))) := rState; clear rState
  clear hE
  go_enter Tryd.func27, Tryd.ntmps27
  go_wp2_with fail
  refine wp_loop_rounds 6 ?_
  rw [rounds_succ]
  go_wp2_with (go_at_call 60; refine (is_other (ad 6) (ad 1) cState cRange tState tRange _ nRange.out (heap_alloc_old _ RState.out) (heap_alloc_old _ RRange.out)).mono ?_; rintro e w' ⟨rfl, rfl⟩)
  rw [rounds_succ]
  go_wp2_with (go_at_call 60; refine (is_other (ad 6) (ad 2) cState cFull tState tFull _ nFull.out (heap_alloc_old _ RState.out) (heap_alloc_old _ RFull.out)).mono ?_; rintro e w' ⟨rfl, rfl⟩)
  rw [rounds_succ]
  go_wp2_with (go_at_call 60; refine (is_other (ad 6) (ad 3) cState cNone tState tNone _ nNone.out (heap_alloc_old _ RState.out) (heap_alloc_old _ RNone.out)).mono ?_; rintro e w' ⟨rfl, rfl⟩)
  rw [rounds_succ]
  go_wp2_with (go_at_call 60; refine (is_other (ad 6) (ad 4) cState cExists tState tExists _ nExists.out (heap_alloc_old _ RState.out) (heap_alloc_old _ RExists.out)).mono ?_; rintro e w' ⟨rfl, rfl⟩)
  rw [rounds_succ]
  go_wp2_with (go_at_call 60; refine (is_other (ad 6) (ad 5) cState cKind tState tKind _ nKind.out (heap_alloc_old _ RState.out) (heap_alloc_old _ RKind.out)).mono ?_; rintro e w' ⟨rfl, rfl⟩)
  rw [rounds_succ]
  go_wp2_with (go_at_call 60; refine (is_same (ad 6) _).mono ?_; rintro e w' ⟨rfl, rfl⟩)
  go_ret
  exact ⟨rfl, (by repeat (first | exact Grew.refl _ | assumption | refine Grew.drew ?_ | refine Grew.alloc ?_ _ | refine Grew.setCell ?_ (by (try simp only [World.size_alloc, World.size_drew]); omega) _ | refine Grew.trans ?_ (by assumption)))⟩

set_option maxHeartbeats 4000000 in
theorem num_Blocked (w : World) (ad : Nat → Addr) (hE : Errs w ad) :
    Calls Tryd.prog 27 #[.iface 130 (.pointer (some (ad 7)))] w fun e w' => e = .returned (.int .i64 8) ∧ Grew w w' := by
  have k0 := hE.cell 0 (by decide)
  have k1 := hE.cell 1 (by decide)
  have k2 := hE.cell 2 (by decide)
  have k3 := hE.cell 3 (by decide)
  have k4 := hE.cell 4 (by decide)
  have k5 := hE.cell 5 (by decide)
  have k6 := hE.cell 6 (by decide)
  have k7 := hE.cell 7 (by decide)
  have k8 := hE.cell 8 (by decide)
  have k9 := hE.cell 9 (by decide)
  obtain ⟨cRange, tRange, rRange⟩ := hE.row 1 (by decide)
  obtain ⟨cFull, tFull, rFull⟩ := hE.row 2 (by decide)
  obtain ⟨cNone, tNone, rNone⟩ := hE.row 3 (by decide)
  obtain ⟨cExists, tExists, rExists⟩ := hE.row 4 (by decide)
  obtain ⟨cKind, tKind, rKind⟩ := hE.row 5 (by decide)
  obtain ⟨cState, tState, rState⟩ := hE.row 6 (by decide)
  obtain ⟨cForm, tForm, rForm⟩ := hE.row 0 (by decide)
  obtain ⟨cBlocked, tBlocked, rBlocked⟩ := hE.row 7 (by decide)
  have nRange : Hid (ad 7 ≠ ad 1) := hE.ne 7 1 (by decide) (by decide) (by decide)
  have nFull : Hid (ad 7 ≠ ad 2) := hE.ne 7 2 (by decide) (by decide) (by decide)
  have nNone : Hid (ad 7 ≠ ad 3) := hE.ne 7 3 (by decide) (by decide) (by decide)
  have nExists : Hid (ad 7 ≠ ad 4) := hE.ne 7 4 (by decide) (by decide) (by decide)
  have nKind : Hid (ad 7 ≠ ad 5) := hE.ne 7 5 (by decide) (by decide) (by decide)
  have nState : Hid (ad 7 ≠ ad 6) := hE.ne 7 6 (by decide) (by decide) (by decide)
  have nForm : Hid (ad 7 ≠ ad 0) := hE.ne 7 0 (by decide) (by decide) (by decide)
  have RRange : Hid (w.heap[(ad 1).block]? = some (.cells cRange tRange (0, 0))) := rRange; clear rRange
  have RFull : Hid (w.heap[(ad 2).block]? = some (.cells cFull tFull (0, 0))) := rFull; clear rFull
  have RNone : Hid (w.heap[(ad 3).block]? = some (.cells cNone tNone (0, 0))) := rNone; clear rNone
  have RExists : Hid (w.heap[(ad 4).block]? = some (.cells cExists tExists (0, 0))) := rExists; clear rExists
  have RKind : Hid (w.heap[(ad 5).block]? = some (.cells cKind tKind (0, 0))) := rKind; clear rKind
  have RState : Hid (w.heap[(ad 6).block]? = some (.cells cState tState (0, 0))) := rState; clear rState
  have RForm : Hid (w.heap[(ad 0).block]? = some (.cells cForm tForm (0, 0))) := rForm; clear rForm
  have RBlocked : Hid (w.heap[(ad 7).block]? = some (.cells cBlocked tBlocked (0, 0))) := rBlocked; clear rBlocked
  clear hE
  go_enter Tryd.func27, Tryd.ntmps27
  go_wp2_with fail
  refine wp_loop_rounds 8 ?_
  rw [rounds_succ]
  go_wp2_with (go_at_call 60; refine (is_other (ad 7) (ad 1) cBlocked cRange tBlocked tRange _ nRange.out (heap_alloc_old _ RBlocked.out) (heap_alloc_old _ RRange.out)).mono ?_; rintro e w' ⟨rfl, rfl⟩)
  rw [rounds_succ]
  go_wp2_with (go_at_call 60; refine (is_other (ad 7) (ad 2) cBlocked cFull tBlocked tFull _ nFull.out (heap_alloc_old _ RBlocked.out) (heap_alloc_old _ RFull.out)).mono ?_; rintro e w' ⟨rfl, rfl⟩)
  rw [rounds_succ]
  go_wp2_with (go_at_call 60; refine (is_other (ad 7) (ad 3) cBlocked cNone tBlocked tNone _ nNone.out (heap_alloc_old _ RBlocked.out) (heap_alloc_old _ RNone.out)).mono ?_; rintro e w' ⟨rfl, rfl⟩)
  rw [rounds_succ]
  go_wp2_with (go_at_call 60; refine (is_other (ad 7) (ad 4) cBlocked cExists tBlocked tExists _ nExists.out (heap_alloc_old _ RBlocked.out) (heap_alloc_old _ RExists.out)).mono ?_; rintro e w' ⟨rfl, rfl⟩)
  rw [rounds_succ]
  go_wp2_with (go_at_call 60; refine (is_other (ad 7) (ad 5) cBlocked cKind tBlocked tKind _ nKind.out (heap_alloc_old _ RBlocked.out) (heap_alloc_old _ RKind.out)).mono ?_; rintro e w' ⟨rfl, rfl⟩)
  rw [rounds_succ]
  go_wp2_with (go_at_call 60; refine (is_other (ad 7) (ad 6) cBlocked cState tBlocked tState _ nState.out (heap_alloc_old _ RBlocked.out) (heap_alloc_old _ RState.out)).mono ?_; rintro e w' ⟨rfl, rfl⟩)
  rw [rounds_succ]
  go_wp2_with (go_at_call 60; refine (is_other (ad 7) (ad 0) cBlocked cForm tBlocked tForm _ nForm.out (heap_alloc_old _ RBlocked.out) (heap_alloc_old _ RForm.out)).mono ?_; rintro e w' ⟨rfl, rfl⟩)
  rw [rounds_succ]
  go_wp2_with (go_at_call 60; refine (is_same (ad 7) _).mono ?_; rintro e w' ⟨rfl, rfl⟩)
  go_ret
  exact ⟨rfl, (by repeat (first | exact Grew.refl _ | assumption | refine Grew.drew ?_ | refine Grew.alloc ?_ _ | refine Grew.setCell ?_ (by (try simp only [World.size_alloc, World.size_drew]); omega) _ | refine Grew.trans ?_ (by assumption)))⟩
end Go.Proofs.YtbgbfljbjpbinaaDoor

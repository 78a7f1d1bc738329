/- A grid whose tiles are all free; Block and Free at one tile. Conditions: the region's cells, the sentinels' cells. -/
import Derived.Test.YtbgbfljbjpbinaaDoorReg17
namespace Go.Proofs.YtbgbfljbjpbinaaDoor
set_option linter.unusedSimpArgs false
set_option linter.unusedVariables false
open Go.RowKit Go.Maps

theorem conn_zero {W H N : Nat} (hW : 1 ≤ W) (hN : N = W * H) (j : Nat) (hj : j < N) : Conn W N (fun _ => true) 0 j := by
  induction j using Nat.strongRecOn with
  | _ j ih =>
    by_cases h0 : j = 0
    · subst h0; exact .refl
    · have hm := Nat.mod_lt j (show 0 < W by omega)
      by_cases hp : 0 < j % W
      · refine .step (ih (j - 1) (by omega) (by omega)) (nbr_symm hW hj (nbr_iff.2 (.inr (.inl ⟨hp, by omega⟩)))) rfl
      · have hd := Nat.div_add_mod j W
        have h1 : W ≤ j := by
          apply Nat.le_of_not_lt
          intro hlt
          rw [Nat.mod_eq_of_lt hlt] at hp
          omega
        exact .step (ih (j - W) (by omega) (by omega)) (nbr_symm hW hj (nbr_iff.2 (.inl ⟨h1, by omega⟩))) rfl
theorem canon_zero {W H N : Nat} (hW : 1 ≤ W) (hN : N = W * H) : Canon W N (fun _ => true) (fun _ => 0) :=
  ⟨fun j hj hf => (by cases hf), fun j hj _ => ⟨0, rfl, Nat.zero_le _, rfl, conn_zero hW hN j hj⟩, fun _ _ _ _ _ _ => rfl⟩
theorem plen_all {f : Nat → Bool} {N : Nat} (h : ∀ j, j < N → f j = true) : (passed f N).length = N := by
  induction N with
  | zero => rfl
  | succ N ih =>
    rw [passed_hit (h N (by omega)), List.length_append, ih fun j hj => h j (by omega)]
    rfl
theorem szok_zero {N : Nat} (hN0 : 0 < N) : SzOk N (fun _ => 0) ((DataW.map []).put (.int .i64 0) (.lit (.int .i64 N))) := by
  have hm1 : (passed (fun j => decide ((0 : Int) = (j : Int))) N).length = 1 := by
    rw [passed_congr (g := fun j => decide (j = 0)) (fun j _ => by
      rw [decide_eq_decide]; constructor <;> intro h <;> omega), passed_one hN0]
    rfl
  refine ⟨tidy_empty.put (key_lit _) _, fun l hl => ?_, fun l hl hl2 z => ?_, ?_⟩
  · by_cases e : l = 0
    · subst e
      have := has_put_same (D := (DataW.map [] : DataW Unit)) isMap_empty (key_lit 0) (.lit (.int .i64 N))
      rw [show ((0 : Nat) : Int) = 0 from rfl, this]; simp
    · have := has_put_other (D := (DataW.map [] : DataW Unit)) (key_ne e) (.lit (.int .i64 N))
      rw [show ((0 : Nat) : Int) = 0 from rfl] at this
      rw [this]
      have e2 : ¬ (0 : Int) = (l : Int) := by omega
      simp [has, e2]
  · obtain rfl : l = 0 := by
      have hl3 : (0 : Int) = (l : Int) := hl2
      omega
    have := atKey_put_same (D := (DataW.map [] : DataW Unit)) isMap_empty (key_lit 0) (.lit (.int .i64 N)) z
    rw [show ((0 : Nat) : Int) = 0 from rfl, this]
    have : cnt N (fun _ => 0) 0 = N := plen_all fun j _ => by simp
    rw [this]
  · have := size_put (k := .int .i64 0) (tidy_empty (H := Unit)) (.lit (.int .i64 N))
    rw [this]
    simp only [has, List.any_nil, Bool.false_eq_true, if_false]
    unfold many
    rw [hm1]; rfl
theorem new_c {w : World} {P L M N W H : Nat} (hW : 1 ≤ W) (hN : N = W * H) (hN0 : 0 < N) (hR : RegAt w P L M N W H (fun _ => 0)) (hS : SizesAt w M 1 ((DataW.map []).put (.int .i64 0) (.lit (.int .i64 N)))) : RgC w P L M N W H (fun _ => true) (fun _ => 0) ((DataW.map []).put (.int .i64 0) (.lit (.int .i64 N))) :=
  ⟨hR, hS.mono (by omega), canon_zero hW hN, szok_zero hN0⟩

theorem rng_one {N t : Nat} (ht : t < N) : RngOk N [(t : Int)] := by
  intro i x hx
  rcases i with _ | i
  · simp at hx; omega
  · simp at hx
theorem ask_one {fr : Nat → Bool} {t : Nat} {b : Bool} (h : fr t = b) : AskFr fr b [(t : Int)] := by
  intro i x hx
  rcases i with _ | i
  · simp at hx; subst hx; exact ⟨by simpa using h, by simp⟩
  · simp at hx
theorem one_list (w : World) (t : Nat) : ListAt (w.alloc (.cells #[.int .i64 t] 3)) w.heap.size 0 1 [(t : Int)] := by
  refine ⟨by simp, by decide, by simp, fun k x hx => ?_⟩
  rcases k with _ | k
  · simp at hx; subst hx; simp
  · simp at hx
theorem block_c1 (P L M N W H t bb : Nat) (fr : Nat → Bool) (lab : Nat → Int) (D : DataW Unit) (w : World) (a b : Addr) (hg : w.cell? ⟨1, 0, none⟩ = some (.iface 130 (.pointer (some a)))) (hbl : w.cell? ⟨7, 0, none⟩ = some (.iface 130 (.pointer (some b)))) (hR : RgC w P L M N W H fr lab D) (hW : 1 ≤ W ∧ W ≤ 32) (hNW : N = W * H) (hN : N ≤ 1024) (ht : t < N) (hL : ListAt w bb 0 1 [(t : Int)]) (h1 : bb ≠ L) (h2 : bb ≠ M) :
    Calls Tryd.prog 32 #[.pointer (some ⟨P, 0, none⟩), .slice (some ⟨bb, 0, none⟩) 1 1] w fun e w' =>
      (e = .returned (.iface 130 (.pointer (some b))) ∧ fr t = false ∧ Grew w w') ∨
      (∃ lab2 D2, e = .returned .nilIface ∧ fr t = true ∧ RgC w' P L M N W H (fun x => fr x && !decide (x = t)) lab2 D2 ∧ Turn2 L M w w') := by
  refine (block_c P L M N W H fr lab D bb 0 1 [(t : Int)] 1 w a b hg hbl hR hW hNW hN hL rfl (by decide) ⟨h1, h2⟩).mono ?_
  rintro e w' (⟨_, h, _⟩ | ⟨rfl, _, h, hgr⟩ | ⟨lab2, D2, rfl, _, ha, hR2, hT⟩)
  · exact absurd (rng_one ht) h
  · refine .inl ⟨rfl, ?_, hgr⟩
    cases hf : fr t
    · rfl
    · exact absurd (ask_one hf) h
  · exact .inr ⟨lab2, D2, rfl, by simpa using (ha 0 t rfl).1, hR2.congr fun j => by
      by_cases e : j = t
      · subst e; simp
      · have : ¬ (j : Int) = (t : Int) := by omega
        simp [e, this], hT⟩
theorem free_c1 (P L M N W H t bb : Nat) (fr : Nat → Bool) (lab : Nat → Int) (D : DataW Unit) (w : World) (a b : Addr) (hg : w.cell? ⟨1, 0, none⟩ = some (.iface 130 (.pointer (some a)))) (hbl : w.cell? ⟨6, 0, none⟩ = some (.iface 130 (.pointer (some b)))) (hR : RgC w P L M N W H fr lab D) (hW : 1 ≤ W ∧ W ≤ 32) (hNW : N = W * H) (hN : N ≤ 1024) (ht : t < N) (hf : fr t = false) (hL : ListAt w bb 0 1 [(t : Int)]) (h1 : bb ≠ L) (h2 : bb ≠ M) :
    Calls Tryd.prog 35 #[.pointer (some ⟨P, 0, none⟩), .slice (some ⟨bb, 0, none⟩) 1 1] w fun e w' =>
      ∃ lab2 D2, e = .returned .nilIface ∧ RgC w' P L M N W H (fun x => fr x || decide (x = t)) lab2 D2 ∧ Turn2 L M w w' := by
  refine (free_c P L M N W H fr lab D bb 0 1 [(t : Int)] 1 w a b hg hbl hR hW hNW hN hL rfl (by decide) ⟨h1, h2⟩).mono ?_
  rintro e w' (⟨_, h, _⟩ | ⟨rfl, _, h, hgr⟩ | ⟨lab2, D2, rfl, _, ha, hR2, hT⟩)
  · exact absurd (rng_one ht) h
  · exact absurd (ask_one hf) h
  · exact ⟨lab2, D2, rfl, hR2.congr fun j => by
      by_cases e : j = t
      · subst e; simp
      · have : ¬ (j : Int) = (t : Int) := by omega
        simp [e, this], hT⟩
end Go.Proofs.YtbgbfljbjpbinaaDoor

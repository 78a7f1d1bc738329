/- Lists of integers in memory; the walk of paddocknum.SameInts. Conditions: the lists' cells. -/
import Derived.Test.YtbgbfljbjpbinaaDoorPlane1
import Derived.Deep.LoopGhost
namespace Go.Proofs.YtbgbfljbjpbinaaDoor
set_option linter.unusedSimpArgs false
set_option linter.unusedVariables false
open Go.RowKit

/-- The value v is a list of the integers L. -/
def IntsAt (w : World) (v : Value) (L : List Int) : Prop := ∃ (ao : Option Addr) (cap : Nat), v = .slice ao L.length cap ∧
  (L = [] ∨ ∃ bb off, ao = some ⟨bb, off, none⟩ ∧ bb < w.heap.size ∧ ∀ k x, L[k]? = some x → w.cell? ⟨bb, off + k, none⟩ = some (.int .i64 x))
theorem IntsAt.grew {w w' : World} {v : Value} {L : List Int} (h : IntsAt w v L) (g : Grew w w') : IntsAt w' v L := by
  obtain ⟨ao, cap, rfl, h⟩ := h
  refine ⟨ao, cap, rfl, h.imp id fun ⟨bb, off, e, hb, hc⟩ => ⟨bb, off, e, by have := g.size; omega, fun k x hx => (g.facts.1 _ _ hb).trans (hc k x hx)⟩⟩

theorem same_len (v1 v2 : Option Addr) (n1 n2 c1 c2 : Nat) (w : World) (h : n1 ≠ n2) :
    Calls Tryd.prog 14 #[.slice v1 n1 c1, .slice v2 n2 c2] w fun e w' => e = .returned (.bool false) ∧ Grew w w' := by
  have hne : ((n1 : Int) == (n2 : Int)) = false := by rw [beq_eq_false_iff_ne]; omega
  go_enter Tryd.func14, Tryd.ntmps14
  go_wp2
  go_ret
  exact ⟨rfl, (by repeat (first | exact Grew.refl _ | assumption | refine Grew.drew ?_ | refine Grew.alloc ?_ _ | refine Grew.setCell ?_ (by (try simp only [World.size_alloc, World.size_drew]); omega) _ | refine Grew.trans ?_ (by assumption)))⟩
theorem same_zero (v1 v2 : Option Addr) (c1 c2 : Nat) (w : World) :
    Calls Tryd.prog 14 #[.slice v1 0 c1, .slice v2 0 c2] w fun e w' => e = .returned (.bool true) ∧ Grew w w' := by
  go_enter Tryd.func14, Tryd.ntmps14
  go_wp2_with fail
  refine wp_loop_rounds 1 ?_
  rw [rounds_succ]
  go_wp2_with fail
  go_ret
  exact ⟨rfl, (by repeat (first | exact Grew.refl _ | assumption | refine Grew.drew ?_ | refine Grew.alloc ?_ _ | refine Grew.setCell ?_ (by (try simp only [World.size_alloc, World.size_drew]); omega) _ | refine Grew.trans ?_ (by assumption)))⟩

theorem take_step {L1 L2 : List Int} {k : Nat} {x : Int} (h1 : L1[k]? = some x) (h2 : L2[k]? = some x) (h : L1.take k = L2.take k) : L1.take (k + 1) = L2.take (k + 1) := by
  rw [List.take_add_one, List.take_add_one, h1, h2, h]

set_option maxHeartbeats 4000000 in
theorem same_core (b1 o1 c1 b2 o2 c2 n : Nat) (L1 L2 : List Int) (w : World) (h1 : ∀ k x, L1[k]? = some x → w.cell? ⟨b1, o1 + k, none⟩ = some (.int .i64 x)) (h2 : ∀ k x, L2[k]? = some x → w.cell? ⟨b2, o2 + k, none⟩ = some (.int .i64 x)) (hb1 : b1 < w.heap.size) (hb2 : b2 < w.heap.size) (hn1 : L1.length = n) (hn2 : L2.length = n) (hlen : n ≤ 4398046511104) :
    Calls Tryd.prog 14 #[.slice (some ⟨b1, o1, none⟩) n c1, .slice (some ⟨b2, o2, none⟩) n c2] w fun e w' => e = .returned (.bool (decide (L1 = L2))) ∧ Grew w w' := by
  have H1 : Hid (∀ k x, L1[k]? = some x → w.cell? ⟨b1, o1 + k, none⟩ = some (.int .i64 x)) := h1
  have H2 : Hid (∀ k x, L2[k]? = some x → w.cell? ⟨b2, o2 + k, none⟩ = some (.int .i64 x)) := h2
  have N1 : Hid (L1.length = n) := hn1
  have N2 : Hid (L2.length = n) := hn2
  clear h1 h2 hn1 hn2
  go_enter Tryd.func14, Tryd.ntmps14
  go_wp2_with fail
  go_loopw [4, 5, 13] (fun s4 s5 i wr => ∃ k : Nat, k ≤ n ∧ s4 = .bool false ∧ i = .int .i64 k ∧ L1.take k = L2.take k ∧ Grew w wr) (fun s4 s5 i wr => n - (intOf i).toNat)
  case atStart => exact ⟨0, Nat.zero_le _, rfl, rfl, by simp, (by repeat (first | exact Grew.refl _ | assumption | refine Grew.drew ?_ | refine Grew.alloc ?_ _ | refine Grew.setCell ?_ (by (try simp only [World.size_alloc, World.size_drew]); omega) _ | refine Grew.trans ?_ (by assumption)))⟩
  case round =>
    obtain ⟨k, hk, rfl, rfl, hT, hG⟩ := hrel
    have HT : Hid (L1.take k = L2.take k) := hT
    clear hT
    by_cases hlt : k < n
    · obtain ⟨x1, hx1⟩ : ∃ x, L1[k]? = some x := ⟨L1[k]'(by rw [N1.out]; exact hlt), by simp⟩
      obtain ⟨x2, hx2⟩ : ∃ x, L2[k]? = some x := ⟨L2[k]'(by rw [N2.out]; exact hlt), by simp⟩
      have e1 : wr.cell? ⟨b1, o1 + k, none⟩ = some (.int .i64 x1) := (hG.facts.1 _ _ hb1).trans (H1.out k x1 hx1)
      have e2 : wr.cell? ⟨b2, o2 + k, none⟩ = some (.int .i64 x2) := (hG.facts.1 _ _ hb2).trans (H2.out k x2 hx2)
      have X1 : Hid (L1[k]? = some x1) := hx1
      have X2 : Hid (L2[k]? = some x2) := hx2
      clear hx1 hx2
      by_cases hx : x1 = x2
      · subst hx
        go_wp2_with fail
        go_region
        go_wp2_with fail
        go_roundw
        case rel => exact ⟨k + 1, by omega, rfl, by go_num, take_step X1.out X2.out HT.out, (by repeat (first | exact Grew.refl _ | assumption | refine Grew.drew ?_ | refine Grew.alloc ?_ _ | refine Grew.setCell ?_ (by (try simp only [World.size_alloc, World.size_drew]); omega) _ | refine Grew.trans ?_ (by assumption)))⟩
        case measure => simp [intOf]; omega
      · have hxe : (x1 == x2) = false := by rw [beq_eq_false_iff_ne]; exact hx
        have hd : L1 ≠ L2 := by
          intro h
          have a := X1.out
          rw [h, X2.out] at a
          exact hx (Option.some.inj a).symm
        go_wp2_with fail
        go_region
        go_wp2_with fail
        exact bodyPost_ret (v := .bool (decide (L1 = L2))) (by simp [results, Tryd.results14, go_sem, *]) rfl ⟨rfl, (by repeat (first | exact Grew.refl _ | assumption | refine Grew.drew ?_ | refine Grew.alloc ?_ _ | refine Grew.setCell ?_ (by (try simp only [World.size_alloc, World.size_drew]); omega) _ | refine Grew.trans ?_ (by assumption)))⟩
    · obtain rfl : k = n := by omega
      have hd : L1 = L2 := by
        have := HT.out
        rw [List.take_of_length_le (by rw [N1.out]; omega), List.take_of_length_le (by rw [N2.out]; omega)] at this
        exact this
      have hdd : decide (L1 = L2) = true := by simp [hd]
      have HD : Hid (decide (L1 = L2) = true) := hdd
      clear hd hdd
      go_wp2_with fail
      exact bodyPost_ret (v := .bool true) (by simp [results, Tryd.results14, go_sem, *]) rfl ⟨by rw [HD.out], (by repeat (first | exact Grew.refl _ | assumption | refine Grew.drew ?_ | refine Grew.alloc ?_ _ | refine Grew.setCell ?_ (by (try simp only [World.size_alloc, World.size_drew]); omega) _ | refine Grew.trans ?_ (by assumption)))⟩

theorem same_any (v1 v2 : Value) (L1 L2 : List Int) (w : World) (h1 : IntsAt w v1 L1) (h2 : IntsAt w v2 L2) (hb : L1.length ≤ 4398046511104) :
    Calls Tryd.prog 14 #[v1, v2] w fun e w' => e = .returned (.bool (decide (L1 = L2))) ∧ Grew w w' := by
  obtain ⟨a1, c1, rfl, h1⟩ := h1
  obtain ⟨a2, c2, rfl, h2⟩ := h2
  by_cases hn : L1.length = L2.length
  · rcases h1 with rfl | ⟨b1, o1, rfl, hb1, hc1⟩
    · have : L2 = [] := List.length_eq_zero_iff.1 hn.symm
      subst this
      exact same_zero _ _ _ _ w
    · rcases h2 with rfl | ⟨b2, o2, rfl, hb2, hc2⟩
      · have : L1 = [] := List.length_eq_zero_iff.1 hn
        subst this
        exact same_zero _ _ _ _ w
      · rw [← hn]
        exact same_core b1 o1 c1 b2 o2 c2 _ L1 L2 w hc1 hc2 hb1 hb2 rfl hn.symm hb
  · have : decide (L1 = L2) = false := by simp; intro h; exact hn (by rw [h])
    rw [this]
    exact same_len _ _ _ _ _ _ w hn
end Go.Proofs.YtbgbfljbjpbinaaDoor

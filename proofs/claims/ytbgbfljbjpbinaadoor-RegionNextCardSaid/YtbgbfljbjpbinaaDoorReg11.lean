/- The walk of paddocklaw15.alive, the chapter's example. Conditions: the sentinels' cells. -/
import Derived.Test.YtbgbfljbjpbinaaDoorReg10
import Derived.Test.YtbgbfljbjpbinaaDoorAlive14
namespace Go.Proofs.YtbgbfljbjpbinaaDoor
set_option linter.unusedSimpArgs false
set_option linter.unusedVariables false
open Go.RowKit Go.Maps

theorem rng1 : RngOk 3 [(1 : Int)] := by
  intro i x hx
  rcases i with _ | i
  · simp at hx; omega
  · simp at hx
theorem ask1 {lab : Nat → Int} {b : Bool} (h : decide (lab 1 = -1) = b) : AskOk lab b [(1 : Int)] := by
  intro i x hx
  rcases i with _ | i
  · simp at hx; subst hx; exact ⟨h, by simp⟩
  · simp at hx
theorem block3 (P L M bb : Nat) (D : DataW Unit) (w : World) (a b : Addr) (hg : w.cell? ⟨1, 0, none⟩ = some (.iface 130 (.pointer (some a)))) (hbl : w.cell? ⟨7, 0, none⟩ = some (.iface 130 (.pointer (some b)))) (hR : RegAt w P L M 3 3 1 (fun _ => 0)) (hS : SizesAt w M 1 D) (hL : ListAt w bb 0 1 [1]) (h1 : bb ≠ L) (h2 : bb ≠ M) :
    Calls Tryd.prog 32 #[.pointer (some ⟨P, 0, none⟩), .slice (some ⟨bb, 0, none⟩) 1 1] w fun e w' => (∃ lab2 D2, e = .returned .nilIface ∧ (lab2 0 = 0 ∧ lab2 1 = -1 ∧ lab2 2 = 2) ∧ RegAt w' P L M 3 3 1 lab2 ∧ SizesAt w' M 4 D2) ∧ Turn2 L M w w' := by
  refine (block_any P L M 3 3 1 1 (fun _ => 0) D bb 0 1 [1] 1 w a b hg hbl hR hS (by decide) (by decide) (by decide) (fun j hj => by constructor <;> simp) hL rfl (by decide) (by decide) ⟨h1, h2⟩).mono ?_
  rintro e w' (⟨_, h, _⟩ | ⟨_, _, h, _⟩ | ⟨lab2, D2, rfl, _, _, hC, hR2, hS2, hT⟩)
  · exact absurd rng1 h
  · exact absurd (ask1 (by decide)) h
  · refine ⟨⟨lab2, D2, rfl, ?_, hR2, hS2⟩, hT⟩
    cases hC with
    | @step i t lab _ D _ h hx _ hs =>
      cases h
      obtain rfl : t = 1 := by simp at hx; omega
      exact cut3 hs
theorem free3 (P L M bb : Nat) (lab : Nat → Int) (D : DataW Unit) (w : World) (a b : Addr) (hg : w.cell? ⟨1, 0, none⟩ = some (.iface 130 (.pointer (some a)))) (hbl : w.cell? ⟨6, 0, none⟩ = some (.iface 130 (.pointer (some b)))) (hR : RegAt w P L M 3 3 1 lab) (hl : lab 0 = 0 ∧ lab 1 = -1 ∧ lab 2 = 2) (hS : SizesAt w M 4 D) (hL : ListAt w bb 0 1 [1]) (h1 : bb ≠ L) (h2 : bb ≠ M) :
    Calls Tryd.prog 35 #[.pointer (some ⟨P, 0, none⟩), .slice (some ⟨bb, 0, none⟩) 1 1] w fun e w' => (∃ lab2 D2, e = .returned .nilIface ∧ (lab2 0 = 0 ∧ lab2 1 = 0 ∧ lab2 2 = 0) ∧ RegAt w' P L M 3 3 1 lab2 ∧ SizesAt w' M 5 D2) ∧ Turn2 L M w w' := by
  refine (free_told P L M 3 3 1 4 lab D bb 0 1 [1] 1 w a b hg hbl hR hS (by decide) (by decide) (by decide) (fun j hj => by
    obtain rfl | rfl | rfl : j = 0 ∨ j = 1 ∨ j = 2 := by omega
    all_goals omega) hL rfl (by decide) (by decide) ⟨h1, h2⟩).mono ?_
  rintro e w' (⟨_, h, _⟩ | ⟨_, _, h, _⟩ | ⟨lab2, D2, rfl, _, _, hC, hR2, hS2, hT⟩)
  · exact absurd rng1 h
  · exact absurd (ask1 (by rw [hl.2.1]; decide)) h
  · refine ⟨⟨lab2, D2, rfl, ?_, hR2, hS2⟩, hT⟩
    cases hC with
    | @step i t lab _ D _ h hx _ hs =>
      cases h
      obtain rfl : t = 1 := by simp at hx; omega
      exact join3 hl.1 hl.2.1 hl.2.2 hs
theorem list1 (w : World) : ListAt (w.alloc (.cells #[.int .i64 1] 3)) w.heap.size 0 1 [1] := by
  refine ⟨by decide, by decide, by simp, fun k x hx => ?_⟩
  rcases k with _ | k
  · simp at hx; subst hx; simp
  · simp at hx
theorem labels3 (P L M : Nat) (lab : Nat → Int) (x y z : Int) (w : World) (hR : RegAt w P L M 3 3 1 lab) (hl : lab 0 = x ∧ lab 1 = y ∧ lab 2 = z) :
    Calls Tryd.prog 33 #[.pointer (some ⟨P, 0, none⟩)] w fun e w' => (∃ v, e = .returned v ∧ IntsAt w' v [x, y, z]) ∧ Grew w w' := by
  refine (labels_any P L M 3 3 1 lab w hR (by decide) (by decide)).mono ?_
  rintro e w' ⟨⟨D, K', rfl, h0, h1, hc⟩, hg⟩
  refine ⟨⟨_, rfl, some ⟨D, 0, none⟩, K', rfl, .inr ⟨D, 0, rfl, h1, fun k u hu => ?_⟩⟩, hg⟩
  rw [Nat.zero_add]
  obtain ⟨l0, l1, l2⟩ := hl
  rcases k with _ | _ | _ | k
  · simp at hu; subst hu; rw [hc 0 (by decide), l0]
  · simp at hu; subst hu; rw [hc 1 (by decide), l1]
  · simp at hu; subst hu; rw [hc 2 (by decide), l2]
  · simp at hu

set_option maxRecDepth 100000 in
set_option maxHeartbeats 8000000 in
theorem alive15_any (w : World) (a b s : Addr) (hg : w.cell? ⟨1, 0, none⟩ = some (.iface 130 (.pointer (some a)))) (hbl : w.cell? ⟨7, 0, none⟩ = some (.iface 130 (.pointer (some b)))) (hst : w.cell? ⟨6, 0, none⟩ = some (.iface 130 (.pointer (some s)))) :
    Calls Tryd.prog 30 #[] w fun e w' => e = .returned (.bool true) ∧ Grew w w' := by
  have HG : Hid (∀ wr, Grew w wr → wr.cell? ⟨1, 0, none⟩ = some (.iface 130 (.pointer (some a))) ∧ wr.cell? ⟨7, 0, none⟩ = some (.iface 130 (.pointer (some b))) ∧ wr.cell? ⟨6, 0, none⟩ = some (.iface 130 (.pointer (some s)))) := fun wr g =>
    ⟨(g.facts.1 _ _ (lt_of_cell hg)).trans hg, (g.facts.1 _ _ (lt_of_cell hbl)).trans hbl, (g.facts.1 _ _ (lt_of_cell hst)).trans hst⟩
  clear hg hbl hst
  go_enter Tryd.func30, Tryd.ntmps30
  go_wp2_with fail
  (go_at_call 31; refine (rgnew_yes 3 1 3 1 0 0 _ a (HG.out _ (by repeat (first | exact Grew.refl _ | assumption | refine Grew.drew ?_ | refine Grew.alloc ?_ _ | refine Grew.setCell ?_ (by (try simp only [World.size_alloc, World.size_drew]); omega) _ | refine Grew.trans ?_ (by assumption)))).1 (by decide) (by decide)).mono ?_; rintro e w1 ⟨⟨P, L, M, rfl, hR1, hS1, hP0, hL0, hM0⟩, hb⟩; obtain ⟨hc, hf⟩ := hb.facts; have hz := hb.size; (try simp only [World.size_alloc, World.size_drew] at hz))
  have hGw1 : Grew w w1 := (by repeat (first | exact Grew.refl _ | assumption | refine Grew.drew ?_ | refine Grew.alloc ?_ _ | refine Grew.setCell ?_ (by (try simp only [World.size_alloc, World.size_drew]); omega) _ | refine Grew.trans ?_ (by assumption)))
  have hz1 := hGw1.size
  have hlt1 : L < w1.heap.size ∧ M < w1.heap.size := ⟨hR1.hL, hS1.lt⟩
  have HR1 : Hid (RegAt w1 P L M 3 3 1 (fun _ => 0)) := hR1
  have HS1 : Hid (SizesAt w1 M 1 _) := hS1
  clear hR1 hS1
  go_wp2_with fail
  go_at_call 32
  refine (block3 P L M w1.heap.size _ _ a b (HG.out _ (by repeat (first | exact Grew.refl _ | assumption | refine Grew.drew ?_ | refine Grew.alloc ?_ _ | refine Grew.setCell ?_ (by (try simp only [World.size_alloc, World.size_drew]); omega) _ | refine Grew.trans ?_ (by assumption)))).1 (HG.out _ (by repeat (first | exact Grew.refl _ | assumption | refine Grew.drew ?_ | refine Grew.alloc ?_ _ | refine Grew.setCell ?_ (by (try simp only [World.size_alloc, World.size_drew]); omega) _ | refine Grew.trans ?_ (by assumption)))).2.1 (HR1.out.grew (by repeat (first | exact Grew.refl _ | assumption | refine Grew.drew ?_ | refine Grew.alloc ?_ _ | refine Grew.setCell ?_ (by (try simp only [World.size_alloc, World.size_drew]); omega) _ | refine Grew.trans ?_ (by assumption)))) (HS1.out.grew (by repeat (first | exact Grew.refl _ | assumption | refine Grew.drew ?_ | refine Grew.alloc ?_ _ | refine Grew.setCell ?_ (by (try simp only [World.size_alloc, World.size_drew]); omega) _ | refine Grew.trans ?_ (by assumption)))) (list1 w1) (by omega) (by omega)).mono ?_
  rintro e w2 ⟨⟨lab2, D2, rfl, hl2, hR2, hS2⟩, hT2⟩
  have HR2 : Hid (RegAt w2 P L M 3 3 1 lab2) := hR2
  have HS2 : Hid (SizesAt w2 M 4 D2) := hS2
  have HL2 : Hid (lab2 0 = 0 ∧ lab2 1 = -1 ∧ lab2 2 = 2) := hl2
  have hGw2 : Grew w w2 := hT2.grew (hGw1.trans (by repeat (first | exact Grew.refl _ | assumption | refine Grew.drew ?_ | refine Grew.alloc ?_ _ | refine Grew.setCell ?_ (by (try simp only [World.size_alloc, World.size_drew]); omega) _ | refine Grew.trans ?_ (by assumption)))) (by omega) (by omega)
  have hz2 := hGw2.size
  have hlt2 : L < w2.heap.size ∧ M < w2.heap.size := ⟨hR2.hL, hS2.lt⟩
  clear hR2 hS2 hl2 hT2
  go_wp2_with fail
  (go_at_call 33; refine (labels3 P L M lab2 0 (-1) 2 _ (HR2.out.grew (by repeat (first | exact Grew.refl _ | assumption | refine Grew.drew ?_ | refine Grew.alloc ?_ _ | refine Grew.setCell ?_ (by (try simp only [World.size_alloc, World.size_drew]); omega) _ | refine Grew.trans ?_ (by assumption)))) HL2.out).mono ?_; rintro e w3 ⟨⟨v3, rfl, hv3⟩, hb⟩; obtain ⟨hc, hf⟩ := hb.facts; have hz := hb.size; (try simp only [World.size_alloc, World.size_drew] at hz))
  have HV3 : Hid (IntsAt w3 v3 [0, -1, 2]) := hv3
  have hG23 : Grew w2 w3 := (by repeat (first | exact Grew.refl _ | assumption | refine Grew.drew ?_ | refine Grew.alloc ?_ _ | refine Grew.setCell ?_ (by (try simp only [World.size_alloc, World.size_drew]); omega) _ | refine Grew.trans ?_ (by assumption)))
  clear hv3
  go_wp2_with fail
  (go_at_call 14; refine (same_eq _ _ _ _ (HV3.out.grew (by repeat (first | exact Grew.refl _ | assumption | refine Grew.drew ?_ | refine Grew.alloc ?_ _ | refine Grew.setCell ?_ (by (try simp only [World.size_alloc, World.size_drew]); omega) _ | refine Grew.trans ?_ (by assumption)))) (ints_lit _ [0, -1, 2] _ (by decide)) (by decide)).mono ?_; rintro e w4 ⟨rfl, hb⟩; obtain ⟨hc, hf⟩ := hb.facts; have hz := hb.size; (try simp only [World.size_alloc, World.size_drew] at hz))
  have hG34 : Grew w3 w4 := (by repeat (first | exact Grew.refl _ | assumption | refine Grew.drew ?_ | refine Grew.alloc ?_ _ | refine Grew.setCell ?_ (by (try simp only [World.size_alloc, World.size_drew]); omega) _ | refine Grew.trans ?_ (by assumption)))
  have hGw4 : Grew w w4 := (hGw2.trans hG23).trans hG34
  have hz4 := (hG23.trans hG34).size
  have HR4 : Hid (RegAt w4 P L M 3 3 1 lab2) := HR2.out.grew (hG23.trans hG34)
  have HS4 : Hid (SizesAt w4 M 4 D2) := HS2.out.grew (hG23.trans hG34)
  go_wp2_with fail
  go_at_call 35
  refine (free3 P L M w4.heap.size lab2 _ _ a s (HG.out _ (hGw4.trans (by repeat (first | exact Grew.refl _ | assumption | refine Grew.drew ?_ | refine Grew.alloc ?_ _ | refine Grew.setCell ?_ (by (try simp only [World.size_alloc, World.size_drew]); omega) _ | refine Grew.trans ?_ (by assumption))))).1 (HG.out _ (hGw4.trans (by repeat (first | exact Grew.refl _ | assumption | refine Grew.drew ?_ | refine Grew.alloc ?_ _ | refine Grew.setCell ?_ (by (try simp only [World.size_alloc, World.size_drew]); omega) _ | refine Grew.trans ?_ (by assumption))))).2.2 (HR4.out.grew (by repeat (first | exact Grew.refl _ | assumption | refine Grew.drew ?_ | refine Grew.alloc ?_ _ | refine Grew.setCell ?_ (by (try simp only [World.size_alloc, World.size_drew]); omega) _ | refine Grew.trans ?_ (by assumption)))) HL2.out (HS4.out.grew (by repeat (first | exact Grew.refl _ | assumption | refine Grew.drew ?_ | refine Grew.alloc ?_ _ | refine Grew.setCell ?_ (by (try simp only [World.size_alloc, World.size_drew]); omega) _ | refine Grew.trans ?_ (by assumption)))) (list1 w4) (by omega) (by omega)).mono ?_
  rintro e w5 ⟨⟨lab5, D5, rfl, hl5, hR5, hS5⟩, hT5⟩
  have HR5 : Hid (RegAt w5 P L M 3 3 1 lab5) := hR5
  have HL5 : Hid (lab5 0 = 0 ∧ lab5 1 = 0 ∧ lab5 2 = 0) := hl5
  have hGw5 : Grew w w5 := hT5.grew (hGw4.trans (by repeat (first | exact Grew.refl _ | assumption | refine Grew.drew ?_ | refine Grew.alloc ?_ _ | refine Grew.setCell ?_ (by (try simp only [World.size_alloc, World.size_drew]); omega) _ | refine Grew.trans ?_ (by assumption)))) (by omega) (by omega)
  clear hR5 hS5 hl5 hT5
  go_wp2_with fail
  (go_at_call 33; refine (labels3 P L M lab5 0 0 0 _ (HR5.out.grew (by repeat (first | exact Grew.refl _ | assumption | refine Grew.drew ?_ | refine Grew.alloc ?_ _ | refine Grew.setCell ?_ (by (try simp only [World.size_alloc, World.size_drew]); omega) _ | refine Grew.trans ?_ (by assumption)))) HL5.out).mono ?_; rintro e w6 ⟨⟨v6, rfl, hv6⟩, hb⟩; obtain ⟨hc, hf⟩ := hb.facts; have hz := hb.size; (try simp only [World.size_alloc, World.size_drew] at hz))
  have HV6 : Hid (IntsAt w6 v6 [0, 0, 0]) := hv6
  have hGw6 : Grew w w6 := hGw5.trans (by repeat (first | exact Grew.refl _ | assumption | refine Grew.drew ?_ | refine Grew.alloc ?_ _ | refine Grew.setCell ?_ (by (try simp only [World.size_alloc, World.size_drew]); omega) _ | refine Grew.trans ?_ (by assumption)))
  clear hv6
  go_wp2_with fail
  (go_at_call 14; refine (same_eq _ _ _ _ (HV6.out.grew (by repeat (first | exact Grew.refl _ | assumption | refine Grew.drew ?_ | refine Grew.alloc ?_ _ | refine Grew.setCell ?_ (by (try simp only [World.size_alloc, World.size_drew]); omega) _ | refine Grew.trans ?_ (by assumption)))) (ints_lit _ [0, 0, 0] _ (by decide)) (by decide)).mono ?_; rintro e w7 ⟨rfl, hb⟩; obtain ⟨hc, hf⟩ := hb.facts; have hz := hb.size; (try simp only [World.size_alloc, World.size_drew] at hz))
  have hGw7 : Grew w w7 := hGw6.trans (by repeat (first | exact Grew.refl _ | assumption | refine Grew.drew ?_ | refine Grew.alloc ?_ _ | refine Grew.setCell ?_ (by (try simp only [World.size_alloc, World.size_drew]); omega) _ | refine Grew.trans ?_ (by assumption)))
  go_wp2_with fail
  go_ret
  exact ⟨rfl, hGw7⟩
end Go.Proofs.YtbgbfljbjpbinaaDoor

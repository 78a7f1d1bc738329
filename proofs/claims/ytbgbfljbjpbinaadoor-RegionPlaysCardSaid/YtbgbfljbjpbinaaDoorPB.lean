/- The chapter's example; Block, Free, Together, Size, Count, Label; a grid that is all free. Conditions: the cells that each contract names. -/
import Derived.Test.YtbgbfljbjpbinaaDoorPA
import Derived.Test.YtbgbfljbjpbinaaDoorAlive14
import Derived.Test.YtbgbfljbjpbinaaDoorRMap1
namespace Go.Proofs.YtbgbfljbjpbinaaDoor
set_option linter.unusedSimpArgs false
set_option linter.unusedVariables false
open Go.RowKit Go.Maps

theorem rng1 : RngOk 3 [(1 : Int)] := by
  intro i x hx
  rcases i with _ | i
  · simp at hx; omega
  · simp at hx
theorem ask1 {lab : Nat → Int} {b : Bool} (h : decide (lab 1 = -1) = b) : AskOk lab b [(1 : Int)] := by
  intro i x hx
  rcases i with _ | i
  · simp at hx; subst hx; exact ⟨h, by simp⟩
  · simp at hx
theorem block3 (P L M bb : Nat) (D : DataW Unit) (w : World) (a b : Addr) (hg : w.cell? ⟨1, 0, none⟩ = some (.iface 130 (.pointer (some a)))) (hbl : w.cell? ⟨7, 0, none⟩ = some (.iface 130 (.pointer (some b)))) (hR : RegAt w P L M 3 3 1 (fun _ => 0)) (hS : SizesAt w M 1 D) (hL : ListAt w bb 0 1 [1]) (h1 : bb ≠ L) (h2 : bb ≠ M) :
    Calls Tryd.prog 32 #[.pointer (some ⟨P, 0, none⟩), .slice (some ⟨bb, 0, none⟩) 1 1] w fun e w' => (∃ lab2 D2, e = .returned .nilIface ∧ (lab2 0 = 0 ∧ lab2 1 = -1 ∧ lab2 2 = 2) ∧ RegAt w' P L M 3 3 1 lab2 ∧ SizesAt w' M 4 D2) ∧ Turn2 L M w w' := by
  refine (block_any P L M 3 3 1 1 (fun _ => 0) D bb 0 1 [1] 1 w a b hg hbl hR hS (by decide) (by decide) (by decide) (fun j hj => by constructor <;> simp) hL rfl (by decide) (by decide) ⟨h1, h2⟩).mono ?_
  rintro e w' (⟨_, h, _⟩ | ⟨_, _, h, _⟩ | ⟨lab2, D2, rfl, _, _, hC, hR2, hS2, hT⟩)
  · exact absurd rng1 h
  · exact absurd (ask1 (by decide)) h
  · refine ⟨⟨lab2, D2, rfl, ?_, hR2, hS2⟩, hT⟩
    cases hC with
    | @step i t lab _ D _ h hx _ hs =>
      cases h
      obtain rfl : t = 1 := by simp at hx; omega
      exact cut3 hs
theorem free3 (P L M bb : Nat) (lab : Nat → Int) (D : DataW Unit) (w : World) (a b : Addr) (hg : w.cell? ⟨1, 0, none⟩ = some (.iface 130 (.pointer (some a)))) (hbl : w.cell? ⟨6, 0, none⟩ = some (.iface 130 (.pointer (some b)))) (hR : RegAt w P L M 3 3 1 lab) (hl : lab 0 = 0 ∧ lab 1 = -1 ∧ lab 2 = 2) (hS : SizesAt w M 4 D) (hL : ListAt w bb 0 1 [1]) (h1 : bb ≠ L) (h2 : bb ≠ M) :
    Calls Tryd.prog 35 #[.pointer (some ⟨P, 0, none⟩), .slice (some ⟨bb, 0, none⟩) 1 1] w fun e w' => (∃ lab2 D2, e = .returned .nilIface ∧ (lab2 0 = 0 ∧ lab2 1 = 0 ∧ lab2 2 = 0) ∧ RegAt w' P L M 3 3 1 lab2 ∧ SizesAt w' M 5 D2) ∧ Turn2 L M w w' := by
  refine (free_told P L M 3 3 1 4 lab D bb 0 1 [1] 1 w a b hg hbl hR hS (by decide) (by decide) (by decide) (fun j hj => by
    obtain rfl | rfl | rfl : j = 0 ∨ j = 1 ∨ j = 2 := by omega
    all_goals omega) hL rfl (by decide) (by decide) ⟨h1, h2⟩).mono ?_
  rintro e w' (⟨_, h, _⟩ | ⟨_, _, h, _⟩ | ⟨lab2, D2, rfl, _, _, hC, hR2, hS2, hT⟩)
  · exact absurd rng1 h
  · exact absurd (ask1 (by rw [hl.2.1]; decide)) h
  · refine ⟨⟨lab2, D2, rfl, ?_, hR2, hS2⟩, hT⟩
    cases hC with
    | @step i t lab _ D _ h hx _ hs =>
      cases h
      obtain rfl : t = 1 := by simp at hx; omega
      exact join3 hl.1 hl.2.1 hl.2.2 hs
theorem list1 (w : World) : ListAt (w.alloc (.cells #[.int .i64 1] 3)) w.heap.size 0 1 [1] := by
  refine ⟨by decide, by decide, by simp, fun k x hx => ?_⟩
  rcases k with _ | k
  · simp at hx; subst hx; simp
  · simp at hx
theorem labels3 (P L M : Nat) (lab : Nat → Int) (x y z : Int) (w : World) (hR : RegAt w P L M 3 3 1 lab) (hl : lab 0 = x ∧ lab 1 = y ∧ lab 2 = z) :
    Calls Tryd.prog 33 #[.pointer (some ⟨P, 0, none⟩)] w fun e w' => (∃ v, e = .returned v ∧ IntsAt w' v [x, y, z]) ∧ Grew w w' := by
  refine (labels_any P L M 3 3 1 lab w hR (by decide) (by decide)).mono ?_
  rintro e w' ⟨⟨D, K', rfl, h0, h1, hc⟩, hg⟩
  refine ⟨⟨_, rfl, some ⟨D, 0, none⟩, K', rfl, .inr ⟨D, 0, rfl, h1, fun k u hu => ?_⟩⟩, hg⟩
  rw [Nat.zero_add]
  obtain ⟨l0, l1, l2⟩ := hl
  rcases k with _ | _ | _ | k
  · simp at hu; subst hu; rw [hc 0 (by decide), l0]
  · simp at hu; subst hu; rw [hc 1 (by decide), l1]
  · simp at hu; subst hu; rw [hc 2 (by decide), l2]
  · simp at hu

set_option maxRecDepth 100000 in
set_option maxHeartbeats 8000000 in
theorem alive15_any (w : World) (a b s : Addr) (hg : w.cell? ⟨1, 0, none⟩ = some (.iface 130 (.pointer (some a)))) (hbl : w.cell? ⟨7, 0, none⟩ = some (.iface 130 (.pointer (some b)))) (hst : w.cell? ⟨6, 0, none⟩ = some (.iface 130 (.pointer (some s)))) :
    Calls Tryd.prog 30 #[] w fun e w' => e = .returned (.bool true) ∧ Grew w w' := by
  have HG : Hid (∀ wr, Grew w wr → wr.cell? ⟨1, 0, none⟩ = some (.iface 130 (.pointer (some a))) ∧ wr.cell? ⟨7, 0, none⟩ = some (.iface 130 (.pointer (some b))) ∧ wr.cell? ⟨6, 0, none⟩ = some (.iface 130 (.pointer (some s)))) := fun wr g =>
    ⟨(g.facts.1 _ _ (lt_of_cell hg)).trans hg, (g.facts.1 _ _ (lt_of_cell hbl)).trans hbl, (g.facts.1 _ _ (lt_of_cell hst)).trans hst⟩
  clear hg hbl hst
  go_enter Tryd.func30, Tryd.ntmps30
  go_wp2_with fail
  (go_at_call 31; refine (rgnew_yes 3 1 3 1 0 0 _ a (HG.out _ (by repeat (first | exact Grew.refl _ | assumption | refine Grew.drew ?_ | refine Grew.alloc ?_ _ | refine Grew.setCell ?_ (by (try simp only [World.size_alloc, World.size_drew]); omega) _ | refine Grew.trans ?_ (by assumption)))).1 (by decide) (by decide)).mono ?_; rintro e w1 ⟨⟨P, L, M, rfl, hR1, hS1, hP0, hL0, hM0⟩, hb⟩; obtain ⟨hc, hf⟩ := hb.facts; have hz := hb.size; (try simp only [World.size_alloc, World.size_drew] at hz))
  have hGw1 : Grew w w1 := (by repeat (first | exact Grew.refl _ | assumption | refine Grew.drew ?_ | refine Grew.alloc ?_ _ | refine Grew.setCell ?_ (by (try simp only [World.size_alloc, World.size_drew]); omega) _ | refine Grew.trans ?_ (by assumption)))
  have hz1 := hGw1.size
  have hlt1 : L < w1.heap.size ∧ M < w1.heap.size := ⟨hR1.hL, hS1.lt⟩
  have HR1 : Hid (RegAt w1 P L M 3 3 1 (fun _ => 0)) := hR1
  have HS1 : Hid (SizesAt w1 M 1 _) := hS1
  clear hR1 hS1
  go_wp2_with fail
  go_at_call 32
  refine (block3 P L M w1.heap.size _ _ a b (HG.out _ (by repeat (first | exact Grew.refl _ | assumption | refine Grew.drew ?_ | refine Grew.alloc ?_ _ | refine Grew.setCell ?_ (by (try simp only [World.size_alloc, World.size_drew]); omega) _ | refine Grew.trans ?_ (by assumption)))).1 (HG.out _ (by repeat (first | exact Grew.refl _ | assumption | refine Grew.drew ?_ | refine Grew.alloc ?_ _ | refine Grew.setCell ?_ (by (try simp only [World.size_alloc, World.size_drew]); omega) _ | refine Grew.trans ?_ (by assumption)))).2.1 (HR1.out.grew (by repeat (first | exact Grew.refl _ | assumption | refine Grew.drew ?_ | refine Grew.alloc ?_ _ | refine Grew.setCell ?_ (by (try simp only [World.size_alloc, World.size_drew]); omega) _ | refine Grew.trans ?_ (by assumption)))) (HS1.out.grew (by repeat (first | exact Grew.refl _ | assumption | refine Grew.drew ?_ | refine Grew.alloc ?_ _ | refine Grew.setCell ?_ (by (try simp only [World.size_alloc, World.size_drew]); omega) _ | refine Grew.trans ?_ (by assumption)))) (list1 w1) (by omega) (by omega)).mono ?_
  rintro e w2 ⟨⟨lab2, D2, rfl, hl2, hR2, hS2⟩, hT2⟩
  have HR2 : Hid (RegAt w2 P L M 3 3 1 lab2) := hR2
  have HS2 : Hid (SizesAt w2 M 4 D2) := hS2
  have HL2 : Hid (lab2 0 = 0 ∧ lab2 1 = -1 ∧ lab2 2 = 2) := hl2
  have hGw2 : Grew w w2 := hT2.grew (hGw1.trans (by repeat (first | exact Grew.refl _ | assumption | refine Grew.drew ?_ | refine Grew.alloc ?_ _ | refine Grew.setCell ?_ (by (try simp only [World.size_alloc, World.size_drew]); omega) _ | refine Grew.trans ?_ (by assumption)))) (by omega) (by omega)
  have hz2 := hGw2.size
  have hlt2 : L < w2.heap.size ∧ M < w2.heap.size := ⟨hR2.hL, hS2.lt⟩
  clear hR2 hS2 hl2 hT2
  go_wp2_with fail
  (go_at_call 33; refine (labels3 P L M lab2 0 (-1) 2 _ (HR2.out.grew (by repeat (first | exact Grew.refl _ | assumption | refine Grew.drew ?_ | refine Grew.alloc ?_ _ | refine Grew.setCell ?_ (by (try simp only [World.size_alloc, World.size_drew]); omega) _ | refine Grew.trans ?_ (by assumption)))) HL2.out).mono ?_; rintro e w3 ⟨⟨v3, rfl, hv3⟩, hb⟩; obtain ⟨hc, hf⟩ := hb.facts; have hz := hb.size; (try simp only [World.size_alloc, World.size_drew] at hz))
  have HV3 : Hid (IntsAt w3 v3 [0, -1, 2]) := hv3
  have hG23 : Grew w2 w3 := (by repeat (first | exact Grew.refl _ | assumption | refine Grew.drew ?_ | refine Grew.alloc ?_ _ | refine Grew.setCell ?_ (by (try simp only [World.size_alloc, World.size_drew]); omega) _ | refine Grew.trans ?_ (by assumption)))
  clear hv3
  go_wp2_with fail
  (go_at_call 14; refine (same_eq _ _ _ _ (HV3.out.grew (by repeat (first | exact Grew.refl _ | assumption | refine Grew.drew ?_ | refine Grew.alloc ?_ _ | refine Grew.setCell ?_ (by (try simp only [World.size_alloc, World.size_drew]); omega) _ | refine Grew.trans ?_ (by assumption)))) (ints_lit _ [0, -1, 2] _ (by decide)) (by decide)).mono ?_; rintro e w4 ⟨rfl, hb⟩; obtain ⟨hc, hf⟩ := hb.facts; have hz := hb.size; (try simp only [World.size_alloc, World.size_drew] at hz))
  have hG34 : Grew w3 w4 := (by repeat (first | exact Grew.refl _ | assumption | refine Grew.drew ?_ | refine Grew.alloc ?_ _ | refine Grew.setCell ?_ (by (try simp only [World.size_alloc, World.size_drew]); omega) _ | refine Grew.trans ?_ (by assumption)))
  have hGw4 : Grew w w4 := (hGw2.trans hG23).trans hG34
  have hz4 := (hG23.trans hG34).size
  have HR4 : Hid (RegAt w4 P L M 3 3 1 lab2) := HR2.out.grew (hG23.trans hG34)
  have HS4 : Hid (SizesAt w4 M 4 D2) := HS2.out.grew (hG23.trans hG34)
  go_wp2_with fail
  go_at_call 35
  refine (free3 P L M w4.heap.size lab2 _ _ a s (HG.out _ (hGw4.trans (by repeat (first | exact Grew.refl _ | assumption | refine Grew.drew ?_ | refine Grew.alloc ?_ _ | refine Grew.setCell ?_ (by (try simp only [World.size_alloc, World.size_drew]); omega) _ | refine Grew.trans ?_ (by assumption))))).1 (HG.out _ (hGw4.trans (by repeat (first | exact Grew.refl _ | assumption | refine Grew.drew ?_ | refine Grew.alloc ?_ _ | refine Grew.setCell ?_ (by (try simp only [World.size_alloc, World.size_drew]); omega) _ | refine Grew.trans ?_ (by assumption))))).2.2 (HR4.out.grew (by repeat (first | exact Grew.refl _ | assumption | refine Grew.drew ?_ | refine Grew.alloc ?_ _ | refine Grew.setCell ?_ (by (try simp only [World.size_alloc, World.size_drew]); omega) _ | refine Grew.trans ?_ (by assumption)))) HL2.out (HS4.out.grew (by repeat (first | exact Grew.refl _ | assumption | refine Grew.drew ?_ | refine Grew.alloc ?_ _ | refine Grew.setCell ?_ (by (try simp only [World.size_alloc, World.size_drew]); omega) _ | refine Grew.trans ?_ (by assumption)))) (list1 w4) (by omega) (by omega)).mono ?_
  rintro e w5 ⟨⟨lab5, D5, rfl, hl5, hR5, hS5⟩, hT5⟩
  have HR5 : Hid (RegAt w5 P L M 3 3 1 lab5) := hR5
  have HL5 : Hid (lab5 0 = 0 ∧ lab5 1 = 0 ∧ lab5 2 = 0) := hl5
  have hGw5 : Grew w w5 := hT5.grew (hGw4.trans (by repeat (first | exact Grew.refl _ | assumption | refine Grew.drew ?_ | refine Grew.alloc ?_ _ | refine Grew.setCell ?_ (by (try simp only [World.size_alloc, World.size_drew]); omega) _ | refine Grew.trans ?_ (by assumption)))) (by omega) (by omega)
  clear hR5 hS5 hl5 hT5
  go_wp2_with fail
  (go_at_call 33; refine (labels3 P L M lab5 0 0 0 _ (HR5.out.grew (by repeat (first | exact Grew.refl _ | assumption | refine Grew.drew ?_ | refine Grew.alloc ?_ _ | refine Grew.setCell ?_ (by (try simp only [World.size_alloc, World.size_drew]); omega) _ | refine Grew.trans ?_ (by assumption)))) HL5.out).mono ?_; rintro e w6 ⟨⟨v6, rfl, hv6⟩, hb⟩; obtain ⟨hc, hf⟩ := hb.facts; have hz := hb.size; (try simp only [World.size_alloc, World.size_drew] at hz))
  have HV6 : Hid (IntsAt w6 v6 [0, 0, 0]) := hv6
  have hGw6 : Grew w w6 := hGw5.trans (by repeat (first | exact Grew.refl _ | assumption | refine Grew.drew ?_ | refine Grew.alloc ?_ _ | refine Grew.setCell ?_ (by (try simp only [World.size_alloc, World.size_drew]); omega) _ | refine Grew.trans ?_ (by assumption)))
  clear hv6
  go_wp2_with fail
  (go_at_call 14; refine (same_eq _ _ _ _ (HV6.out.grew (by repeat (first | exact Grew.refl _ | assumption | refine Grew.drew ?_ | refine Grew.alloc ?_ _ | refine Grew.setCell ?_ (by (try simp only [World.size_alloc, World.size_drew]); omega) _ | refine Grew.trans ?_ (by assumption)))) (ints_lit _ [0, 0, 0] _ (by decide)) (by decide)).mono ?_; rintro e w7 ⟨rfl, hb⟩; obtain ⟨hc, hf⟩ := hb.facts; have hz := hb.size; (try simp only [World.size_alloc, World.size_drew] at hz))
  have hGw7 : Grew w w7 := hGw6.trans (by repeat (first | exact Grew.refl _ | assumption | refine Grew.drew ?_ | refine Grew.alloc ?_ _ | refine Grew.setCell ?_ (by (try simp only [World.size_alloc, World.size_drew]); omega) _ | refine Grew.trans ?_ (by assumption)))
  go_wp2_with fail
  go_ret
  exact ⟨rfl, hGw7⟩
end Go.Proofs.YtbgbfljbjpbinaaDoor
namespace Go.Proofs.YtbgbfljbjpbinaaDoor
set_option linter.unusedSimpArgs false
set_option linter.unusedVariables false
open Go.RowKit Go.Maps

/-- A region in memory whose labels are labels, one for free neighbours. -/
structure RgOk (w : World) (P L M N W H nn : Nat) (lab : Nat → Int) (D : DataW Unit) : Prop where
  r : RegAt w P L M N W H lab
  s : SizesAt w M nn D
  u : Uni W N lab
  l : LabOk N lab
theorem RgOk.grew {w w' : World} {P L M N W H nn : Nat} {lab : Nat → Int} {D : DataW Unit} (h : RgOk w P L M N W H nn lab D) (g : Grew w w') : RgOk w' P L M N W H nn lab D := ⟨h.r.grew g, h.s.grew g, h.u, h.l⟩
theorem block_one (P L M N W H nn t bb : Nat) (lab : Nat → Int) (D : DataW Unit) (w : World) (a b : Addr) (hg : w.cell? ⟨1, 0, none⟩ = some (.iface 130 (.pointer (some a)))) (hbl : w.cell? ⟨7, 0, none⟩ = some (.iface 130 (.pointer (some b)))) (hR : RgOk w P L M N W H nn lab D) (hW : 1 ≤ W ∧ W ≤ 32) (hNW : N = W * H) (hN : N ≤ 1024) (ht : t < N) (hL : ListAt w bb 0 1 [(t : Int)]) (hnn : nn + N ≤ 1000000) (h1 : bb ≠ L) (h2 : bb ≠ M) :
    Calls Tryd.prog 32 #[.pointer (some ⟨P, 0, none⟩), .slice (some ⟨bb, 0, none⟩) 1 1] w fun e w' =>
      (e = .returned (.iface 130 (.pointer (some b))) ∧ lab t = -1 ∧ Grew w w') ∨
      (∃ lab2 D2, e = .returned .nilIface ∧ lab t ≠ -1 ∧ lab2 t = -1 ∧ (∀ j, j < N → lab j ≠ lab t → lab2 j = lab j) ∧ RgOk w' P L M N W H (nn + N) lab2 D2 ∧ Turn2 L M w w') := by
  have hrg : RngOk N [(t : Int)] := by
    intro i x hx
    rcases i with _ | i
    · simp at hx; omega
    · simp at hx
  refine (block_any P L M N W H nn lab D bb 0 1 [(t : Int)] 1 w a b hg hbl hR.r hR.s hW hNW hN hR.l hL rfl (by decide) (by omega) ⟨h1, h2⟩).mono ?_
  rintro e w' (⟨_, h, _⟩ | ⟨rfl, _, h, hgr⟩ | ⟨lab2, D2, rfl, _, ha, hC, hR2, hS2, hT⟩)
  · exact absurd hrg h
  · refine .inl ⟨rfl, ?_, hgr⟩
    apply Classical.byContradiction
    intro hne
    apply h
    intro i x hx
    rcases i with _ | i
    · simp at hx; subst hx
      exact ⟨by simp [hne], by simp⟩
    · simp at hx
  · have hf : lab t ≠ -1 := by
      have := (ha 0 t rfl).1
      simpa using this
    have hu2 := hC.uni hW.1 hNW hR.u
    have hl2 := hC.range hR.l
    have hk : lab2 t = -1 ∧ ∀ j, j < N → lab j ≠ lab t → lab2 j = lab j := by
      cases hC with
      | @step i t' lab' _ D' _ h hx _ hs =>
        cases h
        obtain rfl : t' = t := by simp at hx; omega
        exact hs.kept hW.1 hNW hR.u hR.l ht hf
    exact .inr ⟨lab2, D2, rfl, hf, hk.1, hk.2, ⟨hR2, by rw [Nat.mul_one] at hS2; exact hS2, hu2, hl2⟩, hT⟩
end Go.Proofs.YtbgbfljbjpbinaaDoor
namespace Go.Proofs.YtbgbfljbjpbinaaDoor
set_option linter.unusedSimpArgs false
set_option linter.unusedVariables false
open Go.RowKit Go.Maps

theorem SizesAt.reset {w : World} {M n N : Nat} {D : DataW Unit} (h : SizesAt w M n D) (hN : Maps.size D ≤ N) : SizesAt w M N D := by
  obtain ⟨es, clock, hb, F, hs, rfl⟩ := h.raw
  exact ⟨es, clock, hb, F, by simpa [Maps.size, length_sorted] using hN, rfl⟩
theorem many_le (N : Nat) (lab : Nat → Int) : many N lab ≤ N := passed_le _ N
/-- A region in memory: each free tile bears its least tile, the map holds the sizes. -/
structure RgC (w : World) (P L M N W H : Nat) (fr : Nat → Bool) (lab : Nat → Int) (D : DataW Unit) : Prop where
  r : RegAt w P L M N W H lab
  s : SizesAt w M N D
  c : Canon W N fr lab
  z : SzOk N lab D
theorem RgC.grew {w w' : World} {P L M N W H : Nat} {fr : Nat → Bool} {lab : Nat → Int} {D : DataW Unit} (h : RgC w P L M N W H fr lab D) (g : Grew w w') : RgC w' P L M N W H fr lab D := ⟨h.r.grew g, h.s.grew g, h.c, h.z⟩
theorem RgC.congr {w : World} {P L M N W H : Nat} {fr fr' : Nat → Bool} {lab : Nat → Int} {D : DataW Unit} (h : RgC w P L M N W H fr lab D) (e : ∀ j, fr j = fr' j) : RgC w P L M N W H fr' lab D := ⟨h.r, h.s, h.c.congr e, h.z⟩
/-- All tiles of a list are free, or all blocked; none twice. -/
def AskFr (fr : Nat → Bool) (b : Bool) (L : List Int) : Prop := ∀ (i : Nat) (x : Int), L[i]? = some x → fr x.toNat = b ∧ x ∉ L.take i
theorem Canon.ask {W N : Nat} {fr : Nat → Bool} {lab : Nat → Int} {L : List Int} {b : Bool} (h : Canon W N fr lab) (hr : RngOk N L) : AskOk lab b L ↔ AskFr fr (!b) L := by
  have key : ∀ (i : Nat) (x : Int), L[i]? = some x → (decide (lab x.toNat = -1) = b ↔ fr x.toNat = !b) := fun i x hx => by
    have := hr i x hx
    have hx' : x.toNat < N := by omega
    cases hf : fr x.toNat
    · rw [h.nf _ hx' hf]; cases b <;> simp
    · have := h.ne _ hx' hf
      cases b <;> simp [this]
  constructor
  · intro ha i x hx
    exact ⟨(key i x hx).1 (ha i x hx).1, (ha i x hx).2⟩
  · intro ha i x hx
    exact ⟨(key i x hx).2 (ha i x hx).1, (ha i x hx).2⟩
theorem Cuts.canon {W H N i : Nat} {Ls : List Int} {fr : Nat → Bool} {lab lab2 : Nat → Int} {D D2 : DataW Unit} (h : Cuts W N Ls lab D i lab2 D2) (hW : 1 ≤ W) (hN : N = W * H) (hC : Canon W N fr lab) (hS : SzOk N lab D) (hA : AskFr fr true Ls) :
    Canon W N (fun x => fr x && !(Ls.take i).contains (x : Int)) lab2 ∧ SzOk N lab2 D2 := by
  induction h with
  | start => exact ⟨hC.congr fun j => by simp, hS⟩
  | @step i t lab lab2 D D2 _ hx ht hs ih =>
    obtain ⟨h1, h2⟩ := hA i _ hx
    have hcn := hs.canon hW hN ht ih.1 ih.2 (by rw [Int.toNat_natCast] at h1; simp [h1, h2])
    refine ⟨hcn.1.congr fun j => ?_, hcn.2⟩
    rw [List.take_add_one, hx]
    by_cases e : j = t
    · subst e; simp
    · have : ¬ (j : Int) = (t : Int) := by omega
      simp [e, this]
theorem Joins.canon {W H N i : Nat} {Ls : List Int} {fr : Nat → Bool} {lab lab2 : Nat → Int} {D D2 : DataW Unit} (h : Joins W N Ls lab D i lab2 D2) (hW : 1 ≤ W) (hN : N = W * H) (hN1 : N ≤ 1024) (hC : Canon W N fr lab) (hS : SzOk N lab D) (hA : AskFr fr false Ls) :
    Canon W N (fun x => fr x || (Ls.take i).contains (x : Int)) lab2 ∧ SzOk N lab2 D2 := by
  induction h with
  | start => exact ⟨hC.congr fun j => by simp, hS⟩
  | @step i t lab lab2 D D2 _ hx ht hs ih =>
    obtain ⟨h1, h2⟩ := hA i _ hx
    have hcn := hs.canon hW hN hN1 ht ih.1 ih.2 (by rw [Int.toNat_natCast] at h1; simp [h1, h2])
    refine ⟨hcn.1.congr fun j => ?_, hcn.2⟩
    rw [List.take_add_one, hx]
    by_cases e : j = t
    · subst e; simp
    · have : ¬ (j : Int) = (t : Int) := by omega
      simp [e, this]

theorem block_c (P L M N W H : Nat) (fr : Nat → Bool) (lab : Nat → Int) (D : DataW Unit) (bb off cap : Nat) (Ls : List Int) (n : Nat) (w : World) (a b : Addr) (hg : w.cell? ⟨1, 0, none⟩ = some (.iface 130 (.pointer (some a)))) (hbl : w.cell? ⟨7, 0, none⟩ = some (.iface 130 (.pointer (some b)))) (hR : RgC w P L M N W H fr lab D) (hW : 1 ≤ W ∧ W ≤ 32) (hNW : N = W * H) (hN : N ≤ 1024) (hL : ListAt w bb off cap Ls) (hn : n = Ls.length) (hn1 : n ≤ 900) (hbb : bb ≠ L ∧ bb ≠ M) :
    Calls Tryd.prog 32 #[.pointer (some ⟨P, 0, none⟩), .slice (some ⟨bb, off, none⟩) n cap] w fun e w' =>
      (e = .returned (.iface 130 (.pointer (some a))) ∧ ¬ RngOk N Ls ∧ Grew w w') ∨
      (e = .returned (.iface 130 (.pointer (some b))) ∧ RngOk N Ls ∧ ¬ AskFr fr true Ls ∧ Grew w w') ∨
      (∃ lab2 D2, e = .returned .nilIface ∧ RngOk N Ls ∧ AskFr fr true Ls ∧ RgC w' P L M N W H (fun x => fr x && !Ls.contains (x : Int)) lab2 D2 ∧ Turn2 L M w w') := by
  have hmul : N * n ≤ 1024 * 900 := Nat.mul_le_mul hN hn1
  refine (block_any P L M N W H N lab D bb off cap Ls n w a b hg hbl hR.r hR.s hW hNW hN hR.c.ok hL hn (by omega) (by omega) hbb).mono ?_
  rintro e w' (⟨rfl, h, hgr⟩ | ⟨rfl, h1, h2, hgr⟩ | ⟨lab2, D2, rfl, h1, h2, hC, hR2, hS2, hT⟩)
  · exact .inl ⟨rfl, h, hgr⟩
  · exact .inr (.inl ⟨rfl, h1, fun h => h2 ((hR.c.ask h1).2 h), hgr⟩)
  · have h3 := (hR.c.ask h1).1 h2
    obtain ⟨hc, hz⟩ := hC.canon hW.1 hNW hR.c hR.z h3
    refine .inr (.inr ⟨lab2, D2, rfl, h1, h3, ⟨hR2, hS2.reset (by rw [hz.sz]; exact many_le _ _), hc.congr fun j => by rw [hn, List.take_length], hz⟩, hT⟩)
theorem free_c (P L M N W H : Nat) (fr : Nat → Bool) (lab : Nat → Int) (D : DataW Unit) (bb off cap : Nat) (Ls : List Int) (n : Nat) (w : World) (a b : Addr) (hg : w.cell? ⟨1, 0, none⟩ = some (.iface 130 (.pointer (some a)))) (hbl : w.cell? ⟨6, 0, none⟩ = some (.iface 130 (.pointer (some b)))) (hR : RgC w P L M N W H fr lab D) (hW : 1 ≤ W ∧ W ≤ 32) (hNW : N = W * H) (hN : N ≤ 1024) (hL : ListAt w bb off cap Ls) (hn : n = Ls.length) (hn1 : n ≤ 900) (hbb : bb ≠ L ∧ bb ≠ M) :
    Calls Tryd.prog 35 #[.pointer (some ⟨P, 0, none⟩), .slice (some ⟨bb, off, none⟩) n cap] w fun e w' =>
      (e = .returned (.iface 130 (.pointer (some a))) ∧ ¬ RngOk N Ls ∧ Grew w w') ∨
      (e = .returned (.iface 130 (.pointer (some b))) ∧ RngOk N Ls ∧ ¬ AskFr fr false Ls ∧ Grew w w') ∨
      (∃ lab2 D2, e = .returned .nilIface ∧ RngOk N Ls ∧ AskFr fr false Ls ∧ RgC w' P L M N W H (fun x => fr x || Ls.contains (x : Int)) lab2 D2 ∧ Turn2 L M w w') := by
  refine (free_told P L M N W H N lab D bb off cap Ls n w a b hg hbl hR.r hR.s hW hNW hN hR.c.ok hL hn (by omega) (by omega) hbb).mono ?_
  rintro e w' (⟨rfl, h, hgr⟩ | ⟨rfl, h1, h2, hgr⟩ | ⟨lab2, D2, rfl, h1, h2, hC, hR2, hS2, hT⟩)
  · exact .inl ⟨rfl, h, hgr⟩
  · exact .inr (.inl ⟨rfl, h1, fun h => h2 ((hR.c.ask h1).2 h), hgr⟩)
  · have h3 := (hR.c.ask h1).1 h2
    obtain ⟨hc, hz⟩ := hC.canon hW.1 hNW hN hR.c hR.z h3
    refine .inr (.inr ⟨lab2, D2, rfl, h1, h3, ⟨hR2, hS2.reset (by rw [hz.sz]; exact many_le _ _), hc.congr fun j => by rw [hn, List.take_length], hz⟩, hT⟩)

set_option maxRecDepth 100000 in
set_option maxHeartbeats 4000000 in
theorem label_out (P L M N W H : Nat) (t : Int) (lab : Nat → Int) (w : World) (a : Addr) (hg : w.cell? ⟨1, 0, none⟩ = some (.iface 130 (.pointer (some a)))) (hR : RegAt w P L M N W H lab) (ht : t < 0 ∨ (N : Int) ≤ t) (hN : N ≤ 1024) :
    Calls Tryd.prog 52 #[.pointer (some ⟨P, 0, none⟩), .int .i64 t] w fun e w' => e = .returned (.tuple #[.int .i64 0, .iface 130 (.pointer (some a))]) ∧ Grew w w' := by
  obtain ⟨K, c2⟩ := hR.r2
  clear hR
  rcases ht with h | h
  · have d0 : decide (t < 0) = true := by simpa using h
    go_enter Tryd.func52, Tryd.ntmps52
    go_wp2_with fail
    go_region
    go_wp2
    exact bodyPost_ret (v := .tuple #[.int .i64 0, .iface 130 (.pointer (some a))]) (by simp [results, Tryd.results52, go_sem, *]) rfl ⟨rfl, (by repeat (first | exact Grew.refl _ | assumption | refine Grew.drew ?_ | refine Grew.alloc ?_ _ | refine Grew.setCell ?_ (by (try simp only [World.size_alloc, World.size_drew]); omega) _ | refine Grew.trans ?_ (by assumption)))⟩
  · have d0 : decide (t < 0) = false := by simp; omega
    have d1 : decide ((N : Int) ≤ t) = true := by simpa using h
    go_enter Tryd.func52, Tryd.ntmps52
    go_wp2_with fail
    go_region
    go_wp2
    exact bodyPost_ret (v := .tuple #[.int .i64 0, .iface 130 (.pointer (some a))]) (by simp [results, Tryd.results52, go_sem, *]) rfl ⟨rfl, (by repeat (first | exact Grew.refl _ | assumption | refine Grew.drew ?_ | refine Grew.alloc ?_ _ | refine Grew.setCell ?_ (by (try simp only [World.size_alloc, World.size_drew]); omega) _ | refine Grew.trans ?_ (by assumption)))⟩

set_option maxRecDepth 100000 in
set_option maxHeartbeats 4000000 in
theorem together_in (P L M N W H t u : Nat) (lab : Nat → Int) (w : World) (hR : RegAt w P L M N W H lab) (ht : t < N) (hu : u < N) :
    Calls Tryd.prog 43 #[.pointer (some ⟨P, 0, none⟩), .int .i64 t, .int .i64 u] w fun e w' => e = .returned (.bool (decide (lab t = lab u ∧ lab t ≠ -1))) ∧ Grew w w' := by
  have HR : Hid (RegAt w P L M N W H lab) := hR
  clear hR
  obtain ⟨x, hx⟩ : ∃ x, lab t = x := ⟨_, rfl⟩
  obtain ⟨y, hy⟩ : ∃ y, lab u = y := ⟨_, rfl⟩
  have HX : Hid (lab t = x) := hx
  have HY : Hid (lab u = y) := hy
  rw [hx, hy]
  clear hx hy
  go_enter Tryd.func43, Tryd.ntmps43
  go_wp2_with fail
  (go_at_call 52; refine (label_in P L M N W H t lab _ (HR.out.grew (by repeat (first | exact Grew.refl _ | assumption | refine Grew.drew ?_ | refine Grew.alloc ?_ _ | refine Grew.setCell ?_ (by (try simp only [World.size_alloc, World.size_drew]); omega) _ | refine Grew.trans ?_ (by assumption)))) ht).mono ?_; rintro e w1 ⟨rfl, hb⟩; obtain ⟨hc, hf⟩ := hb.facts; have hz := hb.size; (try simp only [World.size_alloc, World.size_drew] at hz))
  have hG1 : Grew w w1 := (by repeat (first | exact Grew.refl _ | assumption | refine Grew.drew ?_ | refine Grew.alloc ?_ _ | refine Grew.setCell ?_ (by (try simp only [World.size_alloc, World.size_drew]); omega) _ | refine Grew.trans ?_ (by assumption)))
  rw [HX.out]
  go_wp2_with fail
  (go_at_call 52; refine (label_in P L M N W H u lab _ (HR.out.grew (hG1.trans (by repeat (first | exact Grew.refl _ | assumption | refine Grew.drew ?_ | refine Grew.alloc ?_ _ | refine Grew.setCell ?_ (by (try simp only [World.size_alloc, World.size_drew]); omega) _ | refine Grew.trans ?_ (by assumption))))) hu).mono ?_; rintro e w2 ⟨rfl, hb⟩; obtain ⟨hc, hf⟩ := hb.facts; have hz := hb.size; (try simp only [World.size_alloc, World.size_drew] at hz))
  have hG2 : Grew w w2 := hG1.trans (by repeat (first | exact Grew.refl _ | assumption | refine Grew.drew ?_ | refine Grew.alloc ?_ _ | refine Grew.setCell ?_ (by (try simp only [World.size_alloc, World.size_drew]); omega) _ | refine Grew.trans ?_ (by assumption)))
  rw [HY.out]
  by_cases e1 : x = y
  · subst e1
    by_cases e2 : x = -1
    · subst e2
      go_wp2_with fail
      go_ret
      exact ⟨by simp, hG2⟩
    · have e3 : (x != -1) = true := by simpa using e2
      go_wp2_with fail
      go_ret
      exact ⟨by simp [e2, e3], hG2⟩
  · have e3 : (x == y) = false := by rw [beq_eq_false_iff_ne]; exact e1
    go_wp2_with fail
    go_ret
    exact ⟨by simp [e1, e3], hG2⟩
set_option maxRecDepth 100000 in
set_option maxHeartbeats 4000000 in
theorem together_out (P L M N W H : Nat) (t u : Int) (lab : Nat → Int) (w : World) (a : Addr) (hg : w.cell? ⟨1, 0, none⟩ = some (.iface 130 (.pointer (some a)))) (hR : RegAt w P L M N W H lab) (ht : t < 0 ∨ (N : Int) ≤ t) (hu : u < 0 ∨ (N : Int) ≤ u) (hN : N ≤ 1024) :
    Calls Tryd.prog 43 #[.pointer (some ⟨P, 0, none⟩), .int .i64 t, .int .i64 u] w fun e w' => e = .returned (.bool false) ∧ Grew w w' := by
  have HR : Hid (RegAt w P L M N W H lab) := hR
  have HG : Hid (∀ wr, Grew w wr → wr.cell? ⟨1, 0, none⟩ = some (.iface 130 (.pointer (some a)))) := fun wr g => (g.facts.1 _ _ (lt_of_cell hg)).trans hg
  clear hR hg
  go_enter Tryd.func43, Tryd.ntmps43
  go_wp2_with fail
  (go_at_call 52; refine (label_out P L M N W H t lab _ a (HG.out _ (by repeat (first | exact Grew.refl _ | assumption | refine Grew.drew ?_ | refine Grew.alloc ?_ _ | refine Grew.setCell ?_ (by (try simp only [World.size_alloc, World.size_drew]); omega) _ | refine Grew.trans ?_ (by assumption)))) (HR.out.grew (by repeat (first | exact Grew.refl _ | assumption | refine Grew.drew ?_ | refine Grew.alloc ?_ _ | refine Grew.setCell ?_ (by (try simp only [World.size_alloc, World.size_drew]); omega) _ | refine Grew.trans ?_ (by assumption)))) ht hN).mono ?_; rintro e w1 ⟨rfl, hb⟩; obtain ⟨hc, hf⟩ := hb.facts; have hz := hb.size; (try simp only [World.size_alloc, World.size_drew] at hz))
  have hG1 : Grew w w1 := (by repeat (first | exact Grew.refl _ | assumption | refine Grew.drew ?_ | refine Grew.alloc ?_ _ | refine Grew.setCell ?_ (by (try simp only [World.size_alloc, World.size_drew]); omega) _ | refine Grew.trans ?_ (by assumption)))
  go_wp2_with fail
  (go_at_call 52; refine (label_out P L M N W H u lab _ a (HG.out _ (hG1.trans (by repeat (first | exact Grew.refl _ | assumption | refine Grew.drew ?_ | refine Grew.alloc ?_ _ | refine Grew.setCell ?_ (by (try simp only [World.size_alloc, World.size_drew]); omega) _ | refine Grew.trans ?_ (by assumption))))) (HR.out.grew (hG1.trans (by repeat (first | exact Grew.refl _ | assumption | refine Grew.drew ?_ | refine Grew.alloc ?_ _ | refine Grew.setCell ?_ (by (try simp only [World.size_alloc, World.size_drew]); omega) _ | refine Grew.trans ?_ (by assumption))))) hu hN).mono ?_; rintro e w2 ⟨rfl, hb⟩; obtain ⟨hc, hf⟩ := hb.facts; have hz := hb.size; (try simp only [World.size_alloc, World.size_drew] at hz))
  have hG2 : Grew w w2 := hG1.trans (by repeat (first | exact Grew.refl _ | assumption | refine Grew.drew ?_ | refine Grew.alloc ?_ _ | refine Grew.setCell ?_ (by (try simp only [World.size_alloc, World.size_drew]); omega) _ | refine Grew.trans ?_ (by assumption)))
  go_wp2_with fail
  go_ret
  exact ⟨rfl, hG2⟩

set_option maxRecDepth 100000 in
set_option maxHeartbeats 4000000 in
theorem size_none (P L M N W H t : Nat) (lab : Nat → Int) (w : World) (hR : RegAt w P L M N W H lab) (ht : t < N) (hl : lab t = -1) :
    Calls Tryd.prog 44 #[.pointer (some ⟨P, 0, none⟩), .int .i64 t] w fun e w' => e = .returned (.int .i64 0) ∧ Grew w w' := by
  have HR : Hid (RegAt w P L M N W H lab) := hR
  have HX : Hid (lab t = -1) := hl
  clear hR hl
  go_enter Tryd.func44, Tryd.ntmps44
  go_wp2_with fail
  (go_at_call 52; refine (label_in P L M N W H t lab _ (HR.out.grew (by repeat (first | exact Grew.refl _ | assumption | refine Grew.drew ?_ | refine Grew.alloc ?_ _ | refine Grew.setCell ?_ (by (try simp only [World.size_alloc, World.size_drew]); omega) _ | refine Grew.trans ?_ (by assumption)))) ht).mono ?_; rintro e w1 ⟨rfl, hb⟩; obtain ⟨hc, hf⟩ := hb.facts; have hz := hb.size; (try simp only [World.size_alloc, World.size_drew] at hz))
  rw [HX.out]
  go_wp2_with fail
  go_ret
  exact ⟨rfl, (by repeat (first | exact Grew.refl _ | assumption | refine Grew.drew ?_ | refine Grew.alloc ?_ _ | refine Grew.setCell ?_ (by (try simp only [World.size_alloc, World.size_drew]); omega) _ | refine Grew.trans ?_ (by assumption)))⟩
set_option maxRecDepth 100000 in
set_option maxHeartbeats 4000000 in
theorem size_out (P L M N W H : Nat) (t : Int) (lab : Nat → Int) (w : World) (a : Addr) (hg : w.cell? ⟨1, 0, none⟩ = some (.iface 130 (.pointer (some a)))) (hR : RegAt w P L M N W H lab) (ht : t < 0 ∨ (N : Int) ≤ t) (hN : N ≤ 1024) :
    Calls Tryd.prog 44 #[.pointer (some ⟨P, 0, none⟩), .int .i64 t] w fun e w' => e = .returned (.int .i64 0) ∧ Grew w w' := by
  have HR : Hid (RegAt w P L M N W H lab) := hR
  have HG : Hid (∀ wr, Grew w wr → wr.cell? ⟨1, 0, none⟩ = some (.iface 130 (.pointer (some a)))) := fun wr g => (g.facts.1 _ _ (lt_of_cell hg)).trans hg
  clear hR hg
  go_enter Tryd.func44, Tryd.ntmps44
  go_wp2_with fail
  (go_at_call 52; refine (label_out P L M N W H t lab _ a (HG.out _ (by repeat (first | exact Grew.refl _ | assumption | refine Grew.drew ?_ | refine Grew.alloc ?_ _ | refine Grew.setCell ?_ (by (try simp only [World.size_alloc, World.size_drew]); omega) _ | refine Grew.trans ?_ (by assumption)))) (HR.out.grew (by repeat (first | exact Grew.refl _ | assumption | refine Grew.drew ?_ | refine Grew.alloc ?_ _ | refine Grew.setCell ?_ (by (try simp only [World.size_alloc, World.size_drew]); omega) _ | refine Grew.trans ?_ (by assumption)))) ht hN).mono ?_; rintro e w1 ⟨rfl, hb⟩; obtain ⟨hc, hf⟩ := hb.facts; have hz := hb.size; (try simp only [World.size_alloc, World.size_drew] at hz))
  go_wp2_with fail
  go_ret
  exact ⟨rfl, (by repeat (first | exact Grew.refl _ | assumption | refine Grew.drew ?_ | refine Grew.alloc ?_ _ | refine Grew.setCell ?_ (by (try simp only [World.size_alloc, World.size_drew]); omega) _ | refine Grew.trans ?_ (by assumption)))⟩
set_option maxRecDepth 100000 in
set_option maxHeartbeats 4000000 in
theorem size_in (P L M N W H t l c nn : Nat) (lab : Nat → Int) (D : DataW Unit) (w : World) (hR : RegAt w P L M N W H lab) (hS : SizesAt w M nn D) (ht : t < N) (hN : N ≤ 1024) (hl : lab t = (l : Int)) (hlN : l < N) (hat : ∀ z, D.atKey (.int .i64 l) z = .lit (.int .i64 c)) :
    Calls Tryd.prog 44 #[.pointer (some ⟨P, 0, none⟩), .int .i64 t] w fun e w' => e = .returned (.int .i64 c) ∧ Grew w w' := by
  have HR : Hid (RegAt w P L M N W H lab) := hR
  have HS : Hid (SizesAt w M nn D) := hS
  have HX : Hid (lab t = l) := hl
  have HA : Hid (∀ z, D.atKey (.int .i64 l) z = .lit (.int .i64 c)) := hat
  have c3 := hR.r3
  have hP := hR.hP
  have hwf : (Lit.int .i64 (l : Int)).wf = true := WalkArith.wf_i64 (by omega)
  clear hR hl hS hat
  go_enter Tryd.func44, Tryd.ntmps44
  go_wp2_with fail
  (go_at_call 52; refine (label_in P L M N W H t lab _ (HR.out.grew (by repeat (first | exact Grew.refl _ | assumption | refine Grew.drew ?_ | refine Grew.alloc ?_ _ | refine Grew.setCell ?_ (by (try simp only [World.size_alloc, World.size_drew]); omega) _ | refine Grew.trans ?_ (by assumption)))) ht).mono ?_; rintro e w1 ⟨rfl, hb⟩; obtain ⟨hc, hf⟩ := hb.facts; have hz := hb.size; (try simp only [World.size_alloc, World.size_drew] at hz); (try (have hcq := fun o => hc (P) o (by (try simp only [World.size_alloc, World.size_drew]); omega))); (try (have hq : P < w1.heap.size := by omega)))
  have HS1 : Hid (SizesAt w1 M nn D) := HS.out.grew (by repeat (first | exact Grew.refl _ | assumption | refine Grew.drew ?_ | refine Grew.alloc ?_ _ | refine Grew.setCell ?_ (by (try simp only [World.size_alloc, World.size_drew]); omega) _ | refine Grew.trans ?_ (by assumption)))
  have e1 : ((l : Int) == -1) = false := by rw [beq_eq_false_iff_ne]; omega
  rw [HX.out]
  go_wp2_with (at_lookup; refine wpList_lookup_own_int _ rfl _ _ 102 rfl 3 3 .i64 (int_keyed Tryd.underlying3) Tryd.underlying102 Tryd.underlying3 (by rfl) M nn D rfl HS1.out.raw _ _ rfl (keyOf_int_mk Tryd.underlying3 hwf) ?_; intro c' hat' hwc)
  have hcc : c' = c := by
    have := (HA.out _).symm.trans hat'
    injection this with this
    injection this with _ this
    exact this.symm
  subst hcc
  go_ret
  exact ⟨rfl, (by repeat (first | exact Grew.refl _ | assumption | refine Grew.drew ?_ | refine Grew.alloc ?_ _ | refine Grew.setCell ?_ (by (try simp only [World.size_alloc, World.size_drew]); omega) _ | refine Grew.trans ?_ (by assumption)))⟩
set_option maxRecDepth 100000 in
set_option maxHeartbeats 4000000 in
theorem rcount_any (P L M N W H nn : Nat) (lab : Nat → Int) (D : DataW Unit) (w : World) (hR : RegAt w P L M N W H lab) (hS : SizesAt w M nn D) :
    Calls Tryd.prog 34 #[.pointer (some ⟨P, 0, none⟩)] w fun e w' => e = .returned (.int .i64 (Maps.size D)) ∧ Grew w w' := by
  have HS : Hid (SizesAt w M nn D) := hS
  have c3 := hR.r3
  clear hR hS
  go_enter Tryd.func34, Tryd.ntmps34
  have hlen := HS.out.raw.len (t := 102) Tryd.underlying102 3
  go_wp2
  go_ret
  exact ⟨rfl, (by repeat (first | exact Grew.refl _ | assumption | refine Grew.drew ?_ | refine Grew.alloc ?_ _ | refine Grew.setCell ?_ (by (try simp only [World.size_alloc, World.size_drew]); omega) _ | refine Grew.trans ?_ (by assumption)))⟩
end Go.Proofs.YtbgbfljbjpbinaaDoor
namespace Go.Proofs.YtbgbfljbjpbinaaDoor
set_option linter.unusedSimpArgs false
set_option linter.unusedVariables false
open Go.RowKit Go.Maps

theorem conn_zero {W H N : Nat} (hW : 1 ≤ W) (hN : N = W * H) (j : Nat) (hj : j < N) : Conn W N (fun _ => true) 0 j := by
  induction j using Nat.strongRecOn with
  | _ j ih =>
    by_cases h0 : j = 0
    · subst h0; exact .refl
    · have hm := Nat.mod_lt j (show 0 < W by omega)
      by_cases hp : 0 < j % W
      · refine .step (ih (j - 1) (by omega) (by omega)) (nbr_symm hW hj (nbr_iff.2 (.inr (.inl ⟨hp, by omega⟩)))) rfl
      · have hd := Nat.div_add_mod j W
        have h1 : W ≤ j := by
          apply Nat.le_of_not_lt
          intro hlt
          rw [Nat.mod_eq_of_lt hlt] at hp
          omega
        exact .step (ih (j - W) (by omega) (by omega)) (nbr_symm hW hj (nbr_iff.2 (.inl ⟨h1, by omega⟩))) rfl
theorem canon_zero {W H N : Nat} (hW : 1 ≤ W) (hN : N = W * H) : Canon W N (fun _ => true) (fun _ => 0) :=
  ⟨fun j hj hf => (by cases hf), fun j hj _ => ⟨0, rfl, Nat.zero_le _, rfl, conn_zero hW hN j hj⟩, fun _ _ _ _ _ _ => rfl⟩
theorem plen_all {f : Nat → Bool} {N : Nat} (h : ∀ j, j < N → f j = true) : (passed f N).length = N := by
  induction N with
  | zero => rfl
  | succ N ih =>
    rw [passed_hit (h N (by omega)), List.length_append, ih fun j hj => h j (by omega)]
    rfl
theorem szok_zero {N : Nat} (hN0 : 0 < N) : SzOk N (fun _ => 0) ((DataW.map []).put (.int .i64 0) (.lit (.int .i64 N))) := by
  have hm1 : (passed (fun j => decide ((0 : Int) = (j : Int))) N).length = 1 := by
    rw [passed_congr (g := fun j => decide (j = 0)) (fun j _ => by
      rw [decide_eq_decide]; constructor <;> intro h <;> omega), passed_one hN0]
    rfl
  refine ⟨tidy_empty.put (key_lit _) _, fun l hl => ?_, fun l hl hl2 z => ?_, ?_⟩
  · by_cases e : l = 0
    · subst e
      have := has_put_same (D := (DataW.map [] : DataW Unit)) isMap_empty (key_lit 0) (.lit (.int .i64 N))
      rw [show ((0 : Nat) : Int) = 0 from rfl, this]; simp
    · have := has_put_other (D := (DataW.map [] : DataW Unit)) (key_ne e) (.lit (.int .i64 N))
      rw [show ((0 : Nat) : Int) = 0 from rfl] at this
      rw [this]
      have e2 : ¬ (0 : Int) = (l : Int) := by omega
      simp [has, e2]
  · obtain rfl : l = 0 := by
      have hl3 : (0 : Int) = (l : Int) := hl2
      omega
    have := atKey_put_same (D := (DataW.map [] : DataW Unit)) isMap_empty (key_lit 0) (.lit (.int .i64 N)) z
    rw [show ((0 : Nat) : Int) = 0 from rfl, this]
    have : cnt N (fun _ => 0) 0 = N := plen_all fun j _ => by simp
    rw [this]
  · have := size_put (k := .int .i64 0) (tidy_empty (H := Unit)) (.lit (.int .i64 N))
    rw [this]
    simp only [has, List.any_nil, Bool.false_eq_true, if_false]
    unfold many
    rw [hm1]; rfl
theorem new_c {w : World} {P L M N W H : Nat} (hW : 1 ≤ W) (hN : N = W * H) (hN0 : 0 < N) (hR : RegAt w P L M N W H (fun _ => 0)) (hS : SizesAt w M 1 ((DataW.map []).put (.int .i64 0) (.lit (.int .i64 N)))) : RgC w P L M N W H (fun _ => true) (fun _ => 0) ((DataW.map []).put (.int .i64 0) (.lit (.int .i64 N))) :=
  ⟨hR, hS.mono (by omega), canon_zero hW hN, szok_zero hN0⟩

theorem rng_one {N t : Nat} (ht : t < N) : RngOk N [(t : Int)] := by
  intro i x hx
  rcases i with _ | i
  · simp at hx; omega
  · simp at hx
theorem ask_one {fr : Nat → Bool} {t : Nat} {b : Bool} (h : fr t = b) : AskFr fr b [(t : Int)] := by
  intro i x hx
  rcases i with _ | i
  · simp at hx; subst hx; exact ⟨by simpa using h, by simp⟩
  · simp at hx
theorem one_list (w : World) (t : Nat) : ListAt (w.alloc (.cells #[.int .i64 t] 3)) w.heap.size 0 1 [(t : Int)] := by
  refine ⟨by simp, by decide, by simp, fun k x hx => ?_⟩
  rcases k with _ | k
  · simp at hx; subst hx; simp
  · simp at hx
theorem block_c1 (P L M N W H t bb : Nat) (fr : Nat → Bool) (lab : Nat → Int) (D : DataW Unit) (w : World) (a b : Addr) (hg : w.cell? ⟨1, 0, none⟩ = some (.iface 130 (.pointer (some a)))) (hbl : w.cell? ⟨7, 0, none⟩ = some (.iface 130 (.pointer (some b)))) (hR : RgC w P L M N W H fr lab D) (hW : 1 ≤ W ∧ W ≤ 32) (hNW : N = W * H) (hN : N ≤ 1024) (ht : t < N) (hL : ListAt w bb 0 1 [(t : Int)]) (h1 : bb ≠ L) (h2 : bb ≠ M) :
    Calls Tryd.prog 32 #[.pointer (some ⟨P, 0, none⟩), .slice (some ⟨bb, 0, none⟩) 1 1] w fun e w' =>
      (e = .returned (.iface 130 (.pointer (some b))) ∧ fr t = false ∧ Grew w w') ∨
      (∃ lab2 D2, e = .returned .nilIface ∧ fr t = true ∧ RgC w' P L M N W H (fun x => fr x && !decide (x = t)) lab2 D2 ∧ Turn2 L M w w') := by
  refine (block_c P L M N W H fr lab D bb 0 1 [(t : Int)] 1 w a b hg hbl hR hW hNW hN hL rfl (by decide) ⟨h1, h2⟩).mono ?_
  rintro e w' (⟨_, h, _⟩ | ⟨rfl, _, h, hgr⟩ | ⟨lab2, D2, rfl, _, ha, hR2, hT⟩)
  · exact absurd (rng_one ht) h
  · refine .inl ⟨rfl, ?_, hgr⟩
    cases hf : fr t
    · rfl
    · exact absurd (ask_one hf) h
  · exact .inr ⟨lab2, D2, rfl, by simpa using (ha 0 t rfl).1, hR2.congr fun j => by
      by_cases e : j = t
      · subst e; simp
      · have : ¬ (j : Int) = (t : Int) := by omega
        simp [e, this], hT⟩
theorem free_c1 (P L M N W H t bb : Nat) (fr : Nat → Bool) (lab : Nat → Int) (D : DataW Unit) (w : World) (a b : Addr) (hg : w.cell? ⟨1, 0, none⟩ = some (.iface 130 (.pointer (some a)))) (hbl : w.cell? ⟨6, 0, none⟩ = some (.iface 130 (.pointer (some b)))) (hR : RgC w P L M N W H fr lab D) (hW : 1 ≤ W ∧ W ≤ 32) (hNW : N = W * H) (hN : N ≤ 1024) (ht : t < N) (hf : fr t = false) (hL : ListAt w bb 0 1 [(t : Int)]) (h1 : bb ≠ L) (h2 : bb ≠ M) :
    Calls Tryd.prog 35 #[.pointer (some ⟨P, 0, none⟩), .slice (some ⟨bb, 0, none⟩) 1 1] w fun e w' =>
      ∃ lab2 D2, e = .returned .nilIface ∧ RgC w' P L M N W H (fun x => fr x || decide (x = t)) lab2 D2 ∧ Turn2 L M w w' := by
  refine (free_c P L M N W H fr lab D bb 0 1 [(t : Int)] 1 w a b hg hbl hR hW hNW hN hL rfl (by decide) ⟨h1, h2⟩).mono ?_
  rintro e w' (⟨_, h, _⟩ | ⟨rfl, _, h, hgr⟩ | ⟨lab2, D2, rfl, _, ha, hR2, hT⟩)
  · exact absurd (rng_one ht) h
  · exact absurd (ask_one hf) h
  · exact ⟨lab2, D2, rfl, hR2.congr fun j => by
      by_cases e : j = t
      · subst e; simp
      · have : ¬ (j : Int) = (t : Int) := by omega
        simp [e, this], hT⟩
end Go.Proofs.YtbgbfljbjpbinaaDoor
namespace Go.Proofs.YtbgbfljbjpbinaaDoor
set_option linter.unusedSimpArgs false
set_option linter.unusedVariables false
open Go.RowKit Go.Maps

theorem OutAt.list {w : World} {E B : Nat} {v : Value} {L : List Int} (h : OutAt w E B v L) : ∃ g cap, v = .slice (some ⟨g, 0, none⟩) L.length cap ∧ ListAt w g 0 cap L ∧ (g = E ∨ B ≤ g) := by
  obtain ⟨g, cap, rfl, hg, ho⟩ := h
  refine ⟨g, cap, rfl, ?_, hg⟩
  rcases ho.raw.2 with ⟨e, _⟩ | ⟨b, cap', cur, e, hb, hgg, hc, hm, hs, ht⟩
  · cases e
  · simp only [Value.slice.injEq, Option.some.injEq, Addr.mk.injEq, and_true, true_and] at e
    obtain ⟨rfl, rfl⟩ := e
    refine ⟨hc, hm, (Array.getElem?_eq_some_iff.1 hgg).1, fun k x hx => ?_⟩
    have hk : k < L.length := (List.getElem?_eq_some_iff.1 hx).1
    rw [Nat.zero_add, cell_of_row w g k cur 3 (0, 0) hgg]
    have hu : (L.map (Value.int .i64))[k]? = some (.int .i64 x) := by rw [List.getElem?_map, hx]; rfl
    rw [← ht, List.getElem?_take, if_pos (by omega)] at hu
    simpa using hu

/-- The map at block F holds, for each tile, whether it is in the set f. -/
def FirstAt (w : World) (F n : Nat) (D : DataW Unit) (N : Nat) (f : Nat → Bool) : Prop :=
  w.ownsMap Tryd.prog 3 (plainElem Tryd.prog 4) F n D ∧ ∀ t : Nat, t < N → D.atKey (.int .i64 t) (.lit (.bool false)) = .lit (.bool (f t))
theorem FirstAt.start {w : World} {F N : Nat} (h : F = w.heap.size) : FirstAt (w.alloc (.map #[] 0)) F 0 (.map []) N (fun _ => false) := by
  subst h; exact ⟨World.ownsMap_made _ _ _ _, fun _ _ => rfl⟩
theorem FirstAt.lt {w : World} {F n N : Nat} {D : DataW Unit} {f : Nat → Bool} (h : FirstAt w F n D N f) : F < w.heap.size := World.ownsMap.lt h.1
theorem FirstAt.block {w w' : World} {F n N : Nat} {D : DataW Unit} {f : Nat → Bool} (h : FirstAt w F n D N f) (e : w'.heap[F]? = w.heap[F]?) : FirstAt w' F n D N f := by
  obtain ⟨⟨es, clock, hb, rest⟩, hf⟩ := h
  exact ⟨⟨es, clock, e.trans hb, rest⟩, hf⟩
theorem FirstAt.grew {w w' : World} {F n N : Nat} {D : DataW Unit} {f : Nat → Bool} (h : FirstAt w F n D N f) (g : Grew w w') : FirstAt w' F n D N f := h.block (g.below.block F h.lt)
theorem FirstAt.turn2 {w w' : World} {F n N C E : Nat} {D : DataW Unit} {f : Nat → Bool} (h : FirstAt w F n D N f) (g : Turn2 C E w w') (h1 : F ≠ C) (h2 : F ≠ E) : FirstAt w' F n D N f := h.block (g.block F h.lt h1 h2)
set_option maxRecDepth 100000 in
theorem FirstAt.look {w : World} {F n N : Nat} {D : DataW Unit} {f : Nat → Bool} (h : FirstAt w F n D N f) (hN : N ≤ 1024) {t : Nat} (ht : t < N) : (Instr.lookup 62 (.map (some F)) (.int .i64 t) false).run Tryd.prog w = .ok (.bool (f t)) w := by
  obtain ⟨v, ps, hrun, hv⟩ := h.1.lookup (t := 62) (int_keyed Tryd.underlying3) Tryd.underlying62 (z := .bool false) (by rfl) (plainElem_bool Tryd.underlying4 false) (keyOf_int_mk (a := (t : Int)) Tryd.underlying3 (WalkArith.wf_i64 (by omega)))
  rw [h.2 t ht] at hv
  unfold plainElem at hv
  rw [Tryd.underlying4] at hv
  cases v <;> simp at hv
  rw [hrun, hv.1]
theorem FirstAt.mark {w w' : World} {F n N : Nat} {D : DataW Unit} {f : Nat → Bool} (h : FirstAt w F n D N f) {t : Nat} (hown : w'.ownsMap Tryd.prog 3 (plainElem Tryd.prog 4) F (n + 1) (D.put (.int .i64 t) (.lit (.bool true)))) : FirstAt w' F (n + 1) (D.put (.int .i64 t) (.lit (.bool true))) N (fun x => f x || decide (x = t)) := by
  refine ⟨hown, fun u hu => ?_⟩
  by_cases e : u = t
  · subst e
    rw [atKey_put_same h.1.isMap (key_lit _)]; simp
  · rw [atKey_put_other (key_ne e), h.2 u hu]; simp [e]
theorem FirstAt.congr {w : World} {F n N : Nat} {D : DataW Unit} {f g : Nat → Bool} (h : FirstAt w F n D N f) (e : ∀ t, f t = g t) : FirstAt w F n D N g := by
  obtain rfl : f = g := funext e
  exact h

theorem RegAt.turn2 {w w' : World} {P L M N W H C E : Nat} {lab : Nat → Int} (h : RegAt w P L M N W H lab) (g : Turn2 C E w w') (hP : P ≠ C ∧ P ≠ E) (hL : L ≠ C ∧ L ≠ E) : RegAt w' P L M N W H lab := by
  have q : ∀ o, w'.cell? ⟨P, o, none⟩ = w.cell? ⟨P, o, none⟩ := fun o => g.facts.1 _ _ h.hP hP.1 hP.2
  have r : ∀ o, w'.cell? ⟨L, o, none⟩ = w.cell? ⟨L, o, none⟩ := fun o => g.facts.1 _ _ h.hL hL.1 hL.2
  exact ⟨(q _).trans h.r0, (q _).trans h.r1, h.r2.imp fun _ e => (q _).trans e, (q _).trans h.r3, fun j hj => (r _).trans (h.ls j hj), fun o => (g.facts.2 _ _ h.hL hL.1 hL.2).trans (h.fz o), h.ne, h.nm, by have := g.size; have := h.hP; omega, by have := g.size; have := h.hL; omega⟩
theorem RgC.turn2 {w w' : World} {P L M N W H C E : Nat} {fr : Nat → Bool} {lab : Nat → Int} {D : DataW Unit} (h : RgC w P L M N W H fr lab D) (g : Turn2 C E w w') (hP : P ≠ C ∧ P ≠ E) (hL : L ≠ C ∧ L ≠ E) (hM : M ≠ C ∧ M ≠ E) : RgC w' P L M N W H fr lab D :=
  ⟨h.r.turn2 g hP hL, h.s.block (g.block M h.s.lt hM.1 hM.2), h.c, h.z⟩

theorem Grew.reach {a w w' : World} {B : Nat} (g : Grew a w) (h : Below B w w') (hB : a.heap.size ≤ B) : Grew a w' :=
  ⟨h.os.trans g.below.os, h.tape.trans g.below.tape, h.output.trans g.below.output, Nat.le_trans g.size h.size, fun k hk => (h.block k (by omega)).trans (g.below.block k hk)⟩
theorem Conn.monoN {W H N a j : Nat} {fr fr' : Nat → Bool} (h : Conn W N fr a j) (hW : 1 ≤ W) (hN : N = W * H) (ha : a < N) (hm : ∀ k, k < N → fr k = true → fr' k = true) : Conn W N fr' a j := by
  induction h with
  | refl => exact .refl
  | step hc hk hf ih => exact .step ih hk (hm _ (nbr_lt hW hN (hc.lt hW hN ha) hk) hf)
theorem Canon.congrN {W H N : Nat} {fr fr' : Nat → Bool} {lab : Nat → Int} (h : Canon W N fr lab) (hW : 1 ≤ W) (hN : N = W * H) (e : ∀ j, j < N → fr j = fr' j) : Canon W N fr' lab := by
  refine ⟨fun j hj hf => h.nf j hj (by rw [e j hj]; exact hf), fun j hj hf => ?_, h.u⟩
  obtain ⟨m, h1, h2, h3, h4⟩ := h.f j hj (by rw [e j hj]; exact hf)
  exact ⟨m, h1, h2, by rw [← e m (by omega)]; exact h3, h4.monoN hW hN (by omega) fun k hk hf => by rw [← e k hk]; exact hf⟩
theorem RgC.congrN {w : World} {P L M N W H : Nat} {fr fr' : Nat → Bool} {lab : Nat → Int} {D : DataW Unit} (h : RgC w P L M N W H fr lab D) (hW : 1 ≤ W) (hN : N = W * H) (e : ∀ j, j < N → fr j = fr' j) : RgC w P L M N W H fr' lab D := ⟨h.r, h.s, h.c.congrN hW hN e, h.z⟩
/-- Tiles counted from R on: t is the place of x. -/
theorem rot_mod {N R i : Nat} (hR : R < N) (hi : i < N) : ((i + R) % N + (N - R)) % N = i := by
  by_cases h : i + R < N
  · rw [Nat.mod_eq_of_lt h, show i + R + (N - R) = i + N by omega, Nat.add_mod_right, Nat.mod_eq_of_lt hi]
  · rw [show i + R = (i + R - N) + N by omega, Nat.add_mod_right, Nat.mod_eq_of_lt (show i + R - N < N by omega), show i + R - N + (N - R) = i by omega, Nat.mod_eq_of_lt hi]
theorem rot_back {N R x : Nat} (hR : R < N) (hx : x < N) : ((x + (N - R)) % N + R) % N = x := by
  by_cases h : x + (N - R) < N
  · rw [Nat.mod_eq_of_lt h, show x + (N - R) + R = x + N by omega, Nat.add_mod_right, Nat.mod_eq_of_lt hx]
  · rw [show x + (N - R) = (x - R) + N by omega, Nat.add_mod_right, Nat.mod_eq_of_lt (show x - R < N by omega), show x - R + R = x by omega, Nat.mod_eq_of_lt hx]
/-- The first labels of a region as a list. -/
theorem labels_ints {w : World} {D K N : Nat} {lab : Nat → Int} (hD : D < w.heap.size) (hc : ∀ k, k < N → w.cell? ⟨D, k, none⟩ = some (.int .i64 (lab k))) : IntsAt w (.slice (some ⟨D, 0, none⟩) N K) ((List.range N).map lab) := by
  refine ⟨some ⟨D, 0, none⟩, K, by simp, .inr ⟨D, 0, rfl, hD, fun k x hx => ?_⟩⟩
  have hk : k < N := by
    have := (List.getElem?_eq_some_iff.1 hx).1
    simpa using this
  rw [List.getElem?_map, List.getElem?_range hk] at hx
  rw [Nat.zero_add, hc k hk]
  simpa using hx
end Go.Proofs.YtbgbfljbjpbinaaDoor

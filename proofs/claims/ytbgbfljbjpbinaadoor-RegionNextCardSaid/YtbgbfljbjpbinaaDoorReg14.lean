/- Block at one tile, as the laws of region use it. Conditions: the region's cells, the sentinels' cells. -/
import Derived.Test.YtbgbfljbjpbinaaDoorReg13
import Derived.Test.YtbgbfljbjpbinaaDoorReg11
namespace Go.Proofs.YtbgbfljbjpbinaaDoor
set_option linter.unusedSimpArgs false
set_option linter.unusedVariables false
open Go.RowKit Go.Maps

/-- A region in memory whose labels are labels, one for free neighbours. -/
structure RgOk (w : World) (P L M N W H nn : Nat) (lab : Nat → Int) (D : DataW Unit) : Prop where
  r : RegAt w P L M N W H lab
  s : SizesAt w M nn D
  u : Uni W N lab
  l : LabOk N lab
theorem RgOk.grew {w w' : World} {P L M N W H nn : Nat} {lab : Nat → Int} {D : DataW Unit} (h : RgOk w P L M N W H nn lab D) (g : Grew w w') : RgOk w' P L M N W H nn lab D := ⟨h.r.grew g, h.s.grew g, h.u, h.l⟩
theorem block_one (P L M N W H nn t bb : Nat) (lab : Nat → Int) (D : DataW Unit) (w : World) (a b : Addr) (hg : w.cell? ⟨1, 0, none⟩ = some (.iface 130 (.pointer (some a)))) (hbl : w.cell? ⟨7, 0, none⟩ = some (.iface 130 (.pointer (some b)))) (hR : RgOk w P L M N W H nn lab D) (hW : 1 ≤ W ∧ W ≤ 32) (hNW : N = W * H) (hN : N ≤ 1024) (ht : t < N) (hL : ListAt w bb 0 1 [(t : Int)]) (hnn : nn + N ≤ 1000000) (h1 : bb ≠ L) (h2 : bb ≠ M) :
    Calls Tryd.prog 32 #[.pointer (some ⟨P, 0, none⟩), .slice (some ⟨bb, 0, none⟩) 1 1] w fun e w' =>
      (e = .returned (.iface 130 (.pointer (some b))) ∧ lab t = -1 ∧ Grew w w') ∨
      (∃ lab2 D2, e = .returned .nilIface ∧ lab t ≠ -1 ∧ lab2 t = -1 ∧ (∀ j, j < N → lab j ≠ lab t → lab2 j = lab j) ∧ RgOk w' P L M N W H (nn + N) lab2 D2 ∧ Turn2 L M w w') := by
  have hrg : RngOk N [(t : Int)] := by
    intro i x hx
    rcases i with _ | i
    · simp at hx; omega
    · simp at hx
  refine (block_any P L M N W H nn lab D bb 0 1 [(t : Int)] 1 w a b hg hbl hR.r hR.s hW hNW hN hR.l hL rfl (by decide) (by omega) ⟨h1, h2⟩).mono ?_
  rintro e w' (⟨_, h, _⟩ | ⟨rfl, _, h, hgr⟩ | ⟨lab2, D2, rfl, _, ha, hC, hR2, hS2, hT⟩)
  · exact absurd hrg h
  · refine .inl ⟨rfl, ?_, hgr⟩
    apply Classical.byContradiction
    intro hne
    apply h
    intro i x hx
    rcases i with _ | i
    · simp at hx; subst hx
      exact ⟨by simp [hne], by simp⟩
    · simp at hx
  · have hf : lab t ≠ -1 := by
      have := (ha 0 t rfl).1
      simpa using this
    have hu2 := hC.uni hW.1 hNW hR.u
    have hl2 := hC.range hR.l
    have hk : lab2 t = -1 ∧ ∀ j, j < N → lab j ≠ lab t → lab2 j = lab j := by
      cases hC with
      | @step i t' lab' _ D' _ h hx _ hs =>
        cases h
        obtain rfl : t' = t := by simp at hx; omega
        exact hs.kept hW.1 hNW hR.u hR.l ht hf
    exact .inr ⟨lab2, D2, rfl, hf, hk.1, hk.2, ⟨hR2, by rw [Nat.mul_one] at hS2; exact hS2, hu2, hl2⟩, hT⟩
end Go.Proofs.YtbgbfljbjpbinaaDoor

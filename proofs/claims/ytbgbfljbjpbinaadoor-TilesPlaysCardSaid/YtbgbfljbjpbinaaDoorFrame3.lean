/- A list of boxes that is a parameter, opened. No conditions of its own. -/
import Derived.Test.YtbgbfljbjpbinaaDoorFrame2
import Derived.Test.YtbgbfljbjpbinaaDoorLawSums
import Derived.Deep.Slices
import Derived.Deep.Fields
namespace Go.Proofs.YtbgbfljbjpbinaaDoor
set_option linter.unusedSimpArgs false
set_option linter.unusedVariables false
open Go.ChangeShapes Go.WideShapes Go.ChangeAt Go.RowKit

theorem four_open {H : Type} {enc : TypeId × Value → H} {P : Program} {w : World} {base : Nat} {spare : Nat → Bool} {held : Bool} {fuel : Nat} {t : TypeId} {f0 f1 f2 f3 : Field} {cs : List Value} {x : DataW H × List MemPlace} (hs : P.underlying t = some (.struct #[f0, f1, f2, f3])) (hone : Deep.oneCellFields P #[f0, f1, f2, f3] = true) (hC : P.cellsOf t = 4)
    (i0 : P.underlying f0.type = some (.int .i64)) (i1 : P.underlying f1.type = some (.int .i64)) (i2 : P.underlying f2.type = some (.int .i64)) (i3 : P.underlying f3.type = some (.int .i64)) (h : DataW.trod enc P w base spare held fuel t cs = some x) :
    ∃ a b c d : Int, cs = [.int .i64 a, .int .i64 b, .int .i64 c, .int .i64 d] := by
  obtain ⟨ys, n, _, _, hlen, hyl, hf⟩ := DataW.trod_struct hs h
  rw [hC] at hlen
  obtain ⟨o0, k0⟩ := Deep.hone_of hone 0 f0 rfl
  obtain ⟨o1, k1⟩ := Deep.hone_of hone 1 f1 rfl
  obtain ⟨o2, k2⟩ := Deep.hone_of hone 2 f2 rfl
  obtain ⟨o3, k3⟩ := Deep.hone_of hone 3 f3 rfl
  match cs, hlen, ys, hyl with
  | [c0, c1, c2, c3], _, [y0, y1, y2, y3], _ =>
    have h0 : DataW.trod enc P w base spare held n f0.type [c0] = some y0 := by simpa [o0, k0] using hf 0 f0 rfl
    have h1 : DataW.trod enc P w base spare held n f1.type [c1] = some y1 := by simpa [o1, k1] using hf 1 f1 rfl
    have h2 : DataW.trod enc P w base spare held n f2.type [c2] = some y2 := by simpa [o2, k2] using hf 2 f2 rfl
    have h3 : DataW.trod enc P w base spare held n f3.type [c3] = some y3 := by simpa [o3, k3] using hf 3 f3 rfl
    obtain ⟨a, e0, _⟩ := DataW.trod_int i0 h0
    obtain ⟨b, e1, _⟩ := DataW.trod_int i1 h1
    obtain ⟨c, e2, _⟩ := DataW.trod_int i2 h2
    obtain ⟨d, e3, _⟩ := DataW.trod_int i3 h3
    simp at e0 e1 e2 e3
    subst e0 e1 e2 e3
    exact ⟨a, b, c, d, rfl⟩

/-- A slice of boxes: empty, or its boxes lie in cells. -/
theorem boxes_open {H : Type} {enc : TypeId × Value → H} {W : World} {sp : Nat → Bool} {hd : Bool} {fuel : Nat} {v : Option Addr} {n cap : Nat} {x : DataW H × List MemPlace} (h : DataW.trod enc Tryd.prog W 0 sp hd fuel 40 [.slice v n cap] = some x) :
    BoxesIn W v n := by
  rcases Deep.open_slice Tryd.underlying40 h with ⟨hcs, _⟩ | ⟨a, len, cap', m, k, D, Pl, hcs, hb, hl, hm, hmm, hx, hi⟩
  · left; simp at hcs; exact hcs.2.1
  · simp only [List.cons.injEq, Value.slice.injEq, and_true] at hcs
    obtain ⟨rfl, rfl, rfl⟩ := hcs
    by_cases hn : n = 0
    · exact .inl hn
    · right
      have hle : n ≤ m := by rw [hmm]; split <;> omega
      have key : ∀ i, i < n → ∃ b0 b1 b2 b3 : Int, W.cell? (a.add (i * 4)) = some (.int .i64 b0) ∧ W.cell? (a.add (i * 4 + 1)) = some (.int .i64 b1) ∧ W.cell? (a.add (i * 4 + 2)) = some (.int .i64 b2) ∧ W.cell? (a.add (i * 4 + 3)) = some (.int .i64 b3) := by
        intro i hin
        obtain ⟨cs', hc, ht'⟩ := hi i (by omega)
        rw [show Tryd.prog.cellsOf 25 = 4 by kernel_rfl] at hc
        obtain ⟨p, q, r, s, rfl⟩ := four_open Tryd.underlying25 (by kernel_rfl) (by kernel_rfl) Tryd.underlying3 Tryd.underlying3 Tryd.underlying3 Tryd.underlying3 ht'
        obtain ⟨_, _, hat⟩ := World.cells?_some hc
        refine ⟨p, q, r, s, ?_, ?_, ?_, ?_⟩
        · have := hat 0 (by omega); rwa [Deep.add_add] at this
        · have := hat 1 (by omega); rwa [Deep.add_add] at this
        · have := hat 2 (by omega); rwa [Deep.add_add] at this
        · have := hat 3 (by omega); rwa [Deep.add_add] at this
      have hspot : a.spot = none := by
        obtain ⟨_, _, _, _, h0, _⟩ := key 0 (by omega)
        simp only [Nat.zero_mul, Addr.add, if_pos] at h0
        unfold World.cell? at h0
        split at h0
        · split at h0
          · cases h0
          · rename_i hns; simpa using hns
        · cases h0
      obtain ⟨bb, off, sp0⟩ := a
      simp only at hspot; subst hspot
      have hadd : ∀ j, (Addr.mk bb off none).add j = ⟨bb, off + j, none⟩ := fun j => by unfold Addr.add; split <;> simp [*]
      refine ⟨bb, off, rfl, ?_, fun i hi => ?_⟩
      · obtain ⟨_, _, _, _, h0, _⟩ := key 0 (by omega)
        rw [hadd] at h0
        exact World.block_lt_of_cell? _ _ h0
      · have := key i hi
        simp only [hadd] at this
        exact this

end Go.Proofs.YtbgbfljbjpbinaaDoor

/- A grid that is a parameter by value, opened. No conditions of its own. -/
import Derived.Test.YtbgbfljbjpbinaaDoorFrame
namespace Go.Proofs.YtbgbfljbjpbinaaDoor
set_option linter.unusedSimpArgs false
set_option linter.unusedVariables false
open Go.ChangeShapes Go.WideShapes Go.ChangeAt Go.RowKit

set_option maxRecDepth 100000 in
theorem grid_cells {H : Type} {enc : TypeId × Value → H} {P : Program} {w : World} {base : Nat} {spare : Nat → Bool} {held : Bool} {fuel : Nat} {t : TypeId} {f0 f1 f2 f3 f4 : Field} {c0 c1 c2 c3 c4 : Value} {x : DataW H × List MemPlace} (hs : P.underlying t = some (.struct #[f0, f1, f2, f3, f4])) (hone : Deep.oneCellFields P #[f0, f1, f2, f3, f4] = true)
    (i0 : P.underlying f0.type = some (.int .i64)) (i1 : P.underlying f1.type = some (.int .i64)) (i2 : P.underlying f2.type = some (.int .i64)) (i3 : P.underlying f3.type = some (.int .i64)) (i4 : P.underlying f4.type = some (.int .i64)) (h : DataW.trod enc P w base spare held fuel t [c0, c1, c2, c3, c4] = some x) :
    ∃ a b c d e : Int, Value.agg #[c0, c1, c2, c3, c4] = .agg #[.int .i64 a, .int .i64 b, .int .i64 c, .int .i64 d, .int .i64 e] := by
  obtain ⟨ys, n, _, _, hlen, hyl, hf⟩ := DataW.trod_struct hs h
  obtain ⟨o0, k0⟩ := Deep.hone_of hone 0 f0 rfl
  obtain ⟨o1, k1⟩ := Deep.hone_of hone 1 f1 rfl
  obtain ⟨o2, k2⟩ := Deep.hone_of hone 2 f2 rfl
  obtain ⟨o3, k3⟩ := Deep.hone_of hone 3 f3 rfl
  obtain ⟨o4, k4⟩ := Deep.hone_of hone 4 f4 rfl
  match ys, hyl with
  | [y0, y1, y2, y3, y4], _ =>
    have h0 : DataW.trod enc P w base spare held n f0.type [c0] = some y0 := by simpa [o0, k0] using hf 0 f0 rfl
    have h1 : DataW.trod enc P w base spare held n f1.type [c1] = some y1 := by simpa [o1, k1] using hf 1 f1 rfl
    have h2 : DataW.trod enc P w base spare held n f2.type [c2] = some y2 := by simpa [o2, k2] using hf 2 f2 rfl
    have h3 : DataW.trod enc P w base spare held n f3.type [c3] = some y3 := by simpa [o3, k3] using hf 3 f3 rfl
    have h4 : DataW.trod enc P w base spare held n f4.type [c4] = some y4 := by simpa [o4, k4] using hf 4 f4 rfl
    obtain ⟨a, e0, _⟩ := DataW.trod_int i0 h0
    obtain ⟨b, e1, _⟩ := DataW.trod_int i1 h1
    obtain ⟨c, e2, _⟩ := DataW.trod_int i2 h2
    obtain ⟨d, e3, _⟩ := DataW.trod_int i3 h3
    obtain ⟨e, e4, _⟩ := DataW.trod_int i4 h4
    simp at e0 e1 e2 e3 e4
    subst e0 e1 e2 e3 e4
    exact ⟨a, b, c, d, e, rfl⟩
set_option maxRecDepth 100000 in
theorem grid_open {H : Type} {enc : TypeId × Value → H} {W : World} {base b0 : Nat} {sp : Nat → Bool} {hd : Bool} {v : Value} {d : DataW H} {p : List MemPlace} (hv : Value.okWide Tryd.prog W .any b0 23 v) (h : DataW.Trod enc Tryd.prog W base sp hd 23 v d p) :
    ∃ a b c e f : Int, v = .agg #[.int .i64 a, .int .i64 b, .int .i64 c, .int .i64 e, .int .i64 f] := by
  obtain ⟨cs, rfl, hsz⟩ := okWide_struct Tryd.underlying23 hv
  obtain ⟨l⟩ := cs
  match l, hsz.trans (show Tryd.prog.cellsOf 23 = 5 by kernel_rfl) with
  | [c0, c1, c2, c3, c4], _ =>
    obtain ⟨fuel, hf⟩ := h
    exact grid_cells Tryd.underlying23 (by kernel_rfl) Tryd.underlying3 Tryd.underlying3 Tryd.underlying3 Tryd.underlying3 Tryd.underlying3 hf
end Go.Proofs.YtbgbfljbjpbinaaDoor

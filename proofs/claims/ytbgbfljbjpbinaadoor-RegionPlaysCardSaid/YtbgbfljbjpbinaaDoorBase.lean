/- Words that all walks of this seat share: a world that has grown (new blocks alone), what it keeps; the sentinels of package api. No conditions. -/
import Derived.Test.YtbgbfljbjpbinaaDoorRows
import Derived.WalkKit
import Derived.Below
import Derived.Stop.LaidErr
namespace Go.Proofs.YtbgbfljbjpbinaaDoor
set_option linter.unusedSimpArgs false
set_option linter.unusedVariables false
open Go.RowKit

/-- w' is w with new blocks, and draws: all that was there is as it was. -/
def Grew (w w' : World) : Prop := Below w.heap.size w w'
theorem Grew.below {w w' : World} (h : Grew w w') : Below w.heap.size w w' := h
theorem Grew.refl (w : World) : Grew w w := Below.refl _ _
theorem Grew.size {w w' : World} (h : Grew w w') : w.heap.size ≤ w'.heap.size := h.below.size
theorem Grew.trans {a b c : World} (h : Grew a b) (k : Grew b c) : Grew a c := Below.trans h.below (Below.mono k.below h.size)
theorem Grew.drew {a w : World} (h : Grew a w) : Grew a w.drew := Below.drew h.below
theorem Grew.alloc {a w : World} (h : Grew a w) (o : Obj) : Grew a (w.alloc o) := Below.alloc h.below h.size o
theorem Grew.setCell {a w : World} (h : Grew a w) {p : Addr} (hp : a.heap.size ≤ p.block) (u : Value) : Grew a (w.setCell p u) := Below.setCell h.below hp u

/-- What the walk asks of a world behind a call. -/
theorem Grew.facts {W w1 : World} (hb : Grew W w1) :
    (∀ b o, b < W.heap.size → w1.cell? ⟨b, o, none⟩ = W.cell? ⟨b, o, none⟩) ∧ (∀ b o, b < W.heap.size → w1.frozen? ⟨b, o, none⟩ = W.frozen? ⟨b, o, none⟩) :=
  ⟨fun b o h => hb.below.cell (p := ⟨b, o, none⟩) h, fun b o h => hb.below.frozen (p := ⟨b, o, none⟩) h⟩
end Go.Proofs.YtbgbfljbjpbinaaDoor

/- Lists that a walk builds by append: what the loop's relation keeps. No conditions of its own. -/
import Derived.Test.YtbgbfljbjpbinaaDoorList
import Derived.WalkKit
namespace Go.Proofs.YtbgbfljbjpbinaaDoor
set_option linter.unusedSimpArgs false
set_option linter.unusedVariables false
open Go.RowKit

theorem infoInt : (Tryd.prog.info? 3).map (fun i => (i.zero, i.size, i.bytes)) = some (some (.int .i64 0), 1, 8) := by kernel_rfl

/-- v is a row of the walk's own, from block B on, that holds the integers L. -/
def Own (w : World) (B : Nat) (v : Value) (L : List Int) : Prop := w.ownsRow B 3 1 v L.length (L.map (Value.int .i64))
theorem Own.raw {w : World} {B : Nat} {v : Value} {L : List Int} (h : Own w B v L) : w.ownsRow B 3 1 v L.length (L.map (Value.int .i64)) := h
theorem Own.grew {w w' : World} {B : Nat} {v : Value} {L : List Int} (h : Own w B v L) (g : Grew w w') : Own w' B v L := by
  refine ⟨h.raw.1, ?_⟩
  rcases h.raw.2 with hn | ⟨b, cap, cur, rfl, hb, hgg, rest⟩
  · exact .inl hn
  · refine .inr ⟨b, cap, cur, rfl, hb, ?_, rest⟩
    rw [g.below.block b (Array.getElem?_eq_some_iff.1 hgg).1]
    exact hgg
theorem Own.nil (w : World) (B : Nat) : Own w B (.slice none 0 0) [] := World.ownsRow_nil _ _ _ _
theorem Own.ints {w : World} {B : Nat} {v : Value} {L : List Int} (h : Own w B v L) : IntsAt w v L := by
  rcases h.raw.2 with ⟨rfl, hn⟩ | ⟨b, cap, cur, rfl, hb, hgg, hc, hm, hs, ht⟩
  · have : L = [] := List.length_eq_zero_iff.1 hn
    subst this
    exact ⟨none, 0, rfl, .inl rfl⟩
  · refine ⟨some ⟨b, 0, none⟩, cap, rfl, .inr ⟨b, 0, rfl, (Array.getElem?_eq_some_iff.1 hgg).1, fun k x hx => ?_⟩⟩
    have hk : k < L.length := (List.getElem?_eq_some_iff.1 hx).1
    rw [Nat.zero_add, cell_of_row w b k cur 3 (0, 0) hgg]
    have hu : (L.map (Value.int .i64))[k]? = some (.int .i64 x) := by rw [List.getElem?_map, hx]; rfl
    rw [← ht, List.getElem?_take, if_pos (by omega)] at hu
    simpa using hu
/-- v is a list of the integers L that lies in a block of its own, from block B on. -/
def NewInts (w : World) (v : Value) (L : List Int) (B : Nat) : Prop := ∃ (ao : Option Addr) (cap : Nat), v = .slice ao L.length cap ∧
  (L = [] ∨ ∃ bb, ao = some ⟨bb, 0, none⟩ ∧ B ≤ bb ∧ bb < w.heap.size ∧ ∀ k x, L[k]? = some x → w.cell? ⟨bb, k, none⟩ = some (.int .i64 x))
theorem NewInts.ints {w : World} {v : Value} {L : List Int} {B : Nat} (h : NewInts w v L B) : IntsAt w v L := by
  obtain ⟨ao, cap, rfl, h⟩ := h
  exact ⟨ao, cap, rfl, h.imp id fun ⟨bb, e, _, hb, hc⟩ => ⟨bb, 0, e, hb, fun k x hx => by rw [Nat.zero_add]; exact hc k x hx⟩⟩
theorem NewInts.grew {w w' : World} {v : Value} {L : List Int} {B : Nat} (h : NewInts w v L B) (g : Grew w w') : NewInts w' v L B := by
  obtain ⟨ao, cap, rfl, h⟩ := h
  exact ⟨ao, cap, rfl, h.imp id fun ⟨bb, e, h0, hb, hc⟩ => ⟨bb, e, h0, by have := g.size; omega, fun k x hx => (g.facts.1 _ _ hb).trans (hc k x hx)⟩⟩
theorem Own.newInts {w : World} {B B' : Nat} {v : Value} {L : List Int} (h : Own w B v L) (hB : B' ≤ B) : NewInts w v L B' := by
  rcases h.raw.2 with ⟨rfl, hn⟩ | ⟨b, cap, cur, rfl, hb, hgg, hc, hm, hs, ht⟩
  · have : L = [] := List.length_eq_zero_iff.1 hn
    subst this
    exact ⟨none, 0, rfl, .inl rfl⟩
  · refine ⟨some ⟨b, 0, none⟩, cap, rfl, .inr ⟨b, rfl, by omega, (Array.getElem?_eq_some_iff.1 hgg).1, fun k x hx => ?_⟩⟩
    have hk : k < L.length := (List.getElem?_eq_some_iff.1 hx).1
    rw [cell_of_row w b k cur 3 (0, 0) hgg]
    have hu : (L.map (Value.int .i64))[k]? = some (.int .i64 x) := by rw [List.getElem?_map, hx]; rfl
    rw [← ht, List.getElem?_take, if_pos (by omega)] at hu
    simpa using hu
/-- Behind an append of one integer. -/
theorem Own.step {w w1 : World} {B : Nat} {v v' : Value} {L : List Int} {x : Int} (h : w1.ownsRow B 3 1 v' (L.length + 1) (L.map (Value.int .i64) ++ [.int .i64 x])) : Own w1 B v' (L ++ [x]) := by
  unfold Own
  simpa using h
theorem Own.grown {a w w1 : World} {B : Nat} {v : Value} {L : List Int} {o : Obj} (h : Own w B v L) (hB : a.heap.size ≤ B) (g : Grew a w) (hg : (w.alloc o).grownBy w1 v.ownBlock) : Grew a w1 :=
  Below.grown (g.alloc o).below hg (by have := g.size; simp; omega) (fun k hk => by have := (h.raw.lt k hk).1; omega)

/-- What an append of one integer leaves of a round's relation. -/
theorem Own.next {a wr w w1 : World} {B : Nat} {v v' : Value} {L : List Int} {x : Int} {o : Obj} (h : Own wr B v L) (hown : w1.ownsRow B 3 1 v' (L.length + 1) (L.map (Value.int .i64) ++ [.int .i64 x])) (hg : (w.alloc o).grownBy w1 v.ownBlock) (g : Grew wr w) (ga : Grew a wr) (hB : a.heap.size ≤ B) (hBr : B ≤ wr.heap.size) :
    Own w1 B v' (L ++ [x]) ∧ Grew a w1 ∧ Below B wr w1 := by
  refine ⟨Own.step (w := w) (v := v) hown, (h.grew g).grown hB (ga.trans g) hg, ?_⟩
  have hs := g.size
  exact Below.grown ((g.alloc o).below.mono hBr) hg (by simp; omega) (fun k hk => (h.raw.lt k hk).1)

/-- The numbers below k that pass. -/
def passed (f : Nat → Bool) (k : Nat) : List Int := ((List.range k).filter f).map Int.ofNat
theorem passed_hit {f : Nat → Bool} {k : Nat} (h : f k = true) : passed f (k + 1) = passed f k ++ [(k : Int)] := by simp [passed, List.range_succ, List.filter_append, h]
theorem passed_miss {f : Nat → Bool} {k : Nat} (h : f k = false) : passed f (k + 1) = passed f k := by simp [passed, List.range_succ, List.filter_append, h]
theorem passed_le (f : Nat → Bool) (k : Nat) : (passed f k).length ≤ k := by
  have := List.length_filter_le f (List.range k)
  simp [passed] at *
  omega
end Go.Proofs.YtbgbfljbjpbinaaDoor

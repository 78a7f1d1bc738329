/- A script of steps that is a parameter, opened. No conditions of its own. -/
import Derived.Test.YtbgbfljbjpbinaaDoorFrame3
import Derived.Test.YtbgbfljbjpbinaaDoorLawPlays
namespace Go.Proofs.YtbgbfljbjpbinaaDoor
set_option linter.unusedSimpArgs false
set_option linter.unusedVariables false
open Go.ChangeShapes Go.WideShapes Go.ChangeAt Go.RowKit

theorem two_open {H : Type} {enc : TypeId × Value → H} {P : Program} {w : World} {base : Nat} {spare : Nat → Bool} {held : Bool} {fuel : Nat} {t : TypeId} {f0 f1 : Field} {cs : List Value} {x : DataW H × List MemPlace} (hs : P.underlying t = some (.struct #[f0, f1])) (hC : P.cellsOf t = 5)
    (o0 : f0.offset = 0) (k0 : P.cellsOf f0.type = 1) (o1 : f1.offset = 1) (k1 : P.cellsOf f1.type = 4) (i0 : P.underlying f0.type = some (.int .i64)) (h : DataW.trod enc P w base spare held fuel t cs = some x) :
    ∃ (kd : Int) (c1 c2 c3 c4 : Value) (n : Nat) (y : DataW H × List MemPlace), cs = [.int .i64 kd, c1, c2, c3, c4] ∧ DataW.trod enc P w base spare held n f1.type [c1, c2, c3, c4] = some y := by
  obtain ⟨y0, y1, n, _, hl, h0, h1⟩ := trod_struct2 hs h
  rw [hC] at hl
  match cs, hl with
  | [c0, c1, c2, c3, c4], _ =>
    rw [o0, k0] at h0
    rw [o1, k1] at h1
    have h0 : DataW.trod enc P w base spare held n f0.type [c0] = some y0 := by simpa using h0
    obtain ⟨kd, e0, _⟩ := DataW.trod_int i0 h0
    simp at e0
    subst e0
    exact ⟨kd, c1, c2, c3, c4, n, y1, rfl, by simpa using h1⟩
set_option maxRecDepth 100000 in
theorem op_cells {H : Type} {enc : TypeId × Value → H} {w : World} {base : Nat} {spare : Nat → Bool} {held : Bool} {fuel : Nat} {cs : List Value} {x : DataW H × List MemPlace} (h : DataW.trod enc Tryd.prog w base spare held fuel 69 cs = some x) :
    ∃ kd b0 b1 b2 b3 : Int, cs = [.int .i64 kd, .int .i64 b0, .int .i64 b1, .int .i64 b2, .int .i64 b3] := by
  obtain ⟨kd, c1, c2, c3, c4, n, y, rfl, h1⟩ := two_open Tryd.underlying69 (by kernel_rfl) (by kernel_rfl) (by kernel_rfl) (by kernel_rfl) (by kernel_rfl) Tryd.underlying3 h
  obtain ⟨p, q, r, s, e⟩ := four_open Tryd.underlying25 (by kernel_rfl) (by kernel_rfl) Tryd.underlying3 Tryd.underlying3 Tryd.underlying3 Tryd.underlying3 h1
  simp at e
  obtain ⟨rfl, rfl, rfl, rfl⟩ := e
  exact ⟨kd, p, q, r, s, rfl⟩

set_option maxRecDepth 100000 in
theorem ops14_open {H : Type} {enc : TypeId × Value → H} {W : World} {sp : Nat → Bool} {hd : Bool} {fuel : Nat} {v : Option Addr} {n cap : Nat} {x : DataW H × List MemPlace} (h : DataW.trod enc Tryd.prog W 0 sp hd fuel 64 [.slice v n cap] = some x) :
    ScriptIn W v n := by
  rcases Deep.open_slice Tryd.underlying64 h with ⟨hcs, _⟩ | ⟨a, len, cap', m, k, D, Pl, hcs, hb, hl, hm, hmm, hx, hi⟩
  · left; simp at hcs; exact hcs.2.1
  · simp only [List.cons.injEq, Value.slice.injEq, and_true] at hcs
    obtain ⟨rfl, rfl, rfl⟩ := hcs
    by_cases hn : n = 0
    · exact .inl hn
    · right
      have hle : n ≤ m := by rw [hmm]; split <;> omega
      have key : ∀ i, i < n → ∃ kd b0 b1 b2 b3 : Int, W.cell? (a.add (i * 5)) = some (.int .i64 kd) ∧ W.cell? (a.add (i * 5 + 1)) = some (.int .i64 b0) ∧ W.cell? (a.add (i * 5 + 2)) = some (.int .i64 b1) ∧ W.cell? (a.add (i * 5 + 3)) = some (.int .i64 b2) ∧ W.cell? (a.add (i * 5 + 4)) = some (.int .i64 b3) := by
        intro i hin
        obtain ⟨cs', hc, ht'⟩ := hi i (by omega)
        rw [show Tryd.prog.cellsOf 69 = 5 by kernel_rfl] at hc
        obtain ⟨kd, p, q, r, s, rfl⟩ := op_cells ht'
        obtain ⟨_, _, hat⟩ := World.cells?_some hc
        refine ⟨kd, p, q, r, s, ?_, ?_, ?_, ?_, ?_⟩
        · have := hat 0 (by omega); rwa [Deep.add_add] at this
        · have := hat 1 (by omega); rwa [Deep.add_add] at this
        · have := hat 2 (by omega); rwa [Deep.add_add] at this
        · have := hat 3 (by omega); rwa [Deep.add_add] at this
        · have := hat 4 (by omega); rwa [Deep.add_add] at this
      have hspot : a.spot = none := by
        obtain ⟨_, _, _, _, _, h0, _⟩ := key 0 (by omega)
        simp only [Nat.zero_mul, Addr.add, if_pos] at h0
        unfold World.cell? at h0
        split at h0
        · split at h0
          · cases h0
          · rename_i hns; simpa using hns
        · cases h0
      obtain ⟨bb, off, sp0⟩ := a
      simp only at hspot; subst hspot
      have hadd : ∀ j, (Addr.mk bb off none).add j = ⟨bb, off + j, none⟩ := fun j => by unfold Addr.add; split <;> simp [*]
      refine ⟨bb, off, rfl, ?_, fun i hi => ?_⟩
      · obtain ⟨_, _, _, _, _, h0, _⟩ := key 0 (by omega)
        rw [hadd] at h0
        exact World.block_lt_of_cell? _ _ h0
      · have := key i hi
        simp only [hadd] at this
        exact this
end Go.Proofs.YtbgbfljbjpbinaaDoor

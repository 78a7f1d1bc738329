/- A script opened; the walk of RegionPlays: it answers true. Conditions: the cells that each contract names. -/
import Derived.Test.YtbgbfljbjpbinaaDoorFrame2
import Derived.Test.YtbgbfljbjpbinaaDoorPC
import Derived.Deep.Slices
import Derived.Deep.Fields
import Derived.Test.YtbgbfljbjpbinaaDoorPD
import Derived.Test.YtbgbfljbjpbinaaDoorPB
namespace Go.Proofs.YtbgbfljbjpbinaaDoor
set_option linter.unusedSimpArgs false
set_option linter.unusedVariables false
open Go.ChangeShapes Go.WideShapes Go.ChangeAt Go.RowKit

/-- The steps of a script lie in memory. -/
def Script15 (w : World) (v : Option Addr) (n : Nat) : Prop := n = 0 ∨ ∃ bb off, v = some ⟨bb, off, none⟩ ∧ bb < w.heap.size ∧ ∀ i, i < n → ∃ (kd : Int) (tv : Option Addr) (tn tc : Nat) (Ls : List Int),
  w.cell? ⟨bb, off + i * 2, none⟩ = some (.int .i64 kd) ∧ w.cell? ⟨bb, off + i * 2 + 1, none⟩ = some (.slice tv tn tc) ∧ TilesV w tv tn tc Ls
theorem Script15.grew {w w' : World} {v : Option Addr} {n : Nat} (h : Script15 w v n) (g : Grew w w') : Script15 w' v n :=
  h.imp id fun ⟨bb, off, hv, hb, hc⟩ => ⟨bb, off, hv, by have := g.size; omega, fun i hi => by
    obtain ⟨kd, tv, tn, tc, Ls, k0, k1, k2⟩ := hc i hi
    have q := fun o => g.facts.1 bb o hb
    exact ⟨kd, tv, tn, tc, Ls, (q _).trans k0, (q _).trans k1, k2.grew g⟩⟩
set_option maxRecDepth 100000 in
theorem tiles_open {H : Type} {enc : TypeId × Value → H} {W : World} {sp : Nat → Bool} {hd : Bool} {fuel : Nat} {cs : List Value} {x : DataW H × List MemPlace} (h : DataW.trod enc Tryd.prog W 0 sp hd fuel 28 cs = some x) :
    ∃ v n cap Ls, cs = [.slice v n cap] ∧ TilesV W v n cap Ls := by
  rcases Deep.open_slice Tryd.underlying28 h with ⟨hcs, _⟩ | ⟨a, len, cap', m, k, D, Pl, hcs, hb, hl, hm, hmm, hx, hi⟩
  · exact ⟨none, 0, 0, [], hcs, ⟨rfl, .inl rfl⟩, .inl ⟨rfl, rfl, rfl⟩⟩
  · subst hcs
    obtain ⟨Ls, hLs⟩ := ListV.exists (ints_open h)
    exact ⟨some a, len, cap', Ls, rfl, hLs, .inr ⟨a, rfl⟩⟩
theorem twoV_open {H : Type} {enc : TypeId × Value → H} {P : Program} {w : World} {base : Nat} {spare : Nat → Bool} {held : Bool} {fuel : Nat} {t : TypeId} {f0 f1 : Field} {cs : List Value} {x : DataW H × List MemPlace} (hs : P.underlying t = some (.struct #[f0, f1])) (hC : P.cellsOf t = 2)
    (o0 : f0.offset = 0) (k0 : P.cellsOf f0.type = 1) (o1 : f1.offset = 1) (k1 : P.cellsOf f1.type = 1) (i0 : P.underlying f0.type = some (.int .i64)) (h : DataW.trod enc P w base spare held fuel t cs = some x) :
    ∃ (kd : Int) (c1 : Value) (n : Nat) (y : DataW H × List MemPlace), cs = [.int .i64 kd, c1] ∧ DataW.trod enc P w base spare held n f1.type [c1] = some y := by
  obtain ⟨y0, y1, n, _, hl, h0, h1⟩ := trod_struct2 hs h
  rw [hC] at hl
  match cs, hl with
  | [c0, c1], _ =>
    rw [o0, k0] at h0
    rw [o1, k1] at h1
    have h0 : DataW.trod enc P w base spare held n f0.type [c0] = some y0 := by simpa using h0
    obtain ⟨kd, e0, _⟩ := DataW.trod_int i0 h0
    simp at e0
    subst e0
    exact ⟨kd, c1, n, y1, rfl, by simpa using h1⟩
set_option maxRecDepth 100000 in
theorem ops15_open {H : Type} {enc : TypeId × Value → H} {W : World} {sp : Nat → Bool} {hd : Bool} {fuel : Nat} {v : Option Addr} {n cap : Nat} {x : DataW H × List MemPlace} (h : DataW.trod enc Tryd.prog W 0 sp hd fuel 78 [.slice v n cap] = some x) :
    Script15 W v n := by
  rcases Deep.open_slice Tryd.underlying78 h with ⟨hcs, _⟩ | ⟨a, len, cap', m, k, D, Pl, hcs, hb, hl, hm, hmm, hx, hi⟩
  · left; simp at hcs; exact hcs.2.1
  · simp only [List.cons.injEq, Value.slice.injEq, and_true] at hcs
    obtain ⟨rfl, rfl, rfl⟩ := hcs
    by_cases hn : n = 0
    · exact .inl hn
    · right
      have hle : n ≤ m := by rw [hmm]; split <;> omega
      have key : ∀ i, i < n → ∃ (kd : Int) (tv : Option Addr) (tn tc : Nat) (Ls : List Int), W.cell? (a.add (i * 2)) = some (.int .i64 kd) ∧ W.cell? (a.add (i * 2 + 1)) = some (.slice tv tn tc) ∧ TilesV W tv tn tc Ls := by
        intro i hin
        obtain ⟨cs', hc, ht'⟩ := hi i (by omega)
        rw [show Tryd.prog.cellsOf 82 = 2 by kernel_rfl] at hc
        obtain ⟨kd, c1, n', y, rfl, h1⟩ := twoV_open Tryd.underlying82 (by kernel_rfl) (by kernel_rfl) (by kernel_rfl) (by kernel_rfl) (by kernel_rfl) Tryd.underlying3 ht'
        obtain ⟨tv, tn, tc, Ls, e1, hT⟩ := tiles_open h1
        simp at e1
        subst e1
        obtain ⟨_, _, hat⟩ := World.cells?_some hc
        refine ⟨kd, tv, tn, tc, Ls, ?_, ?_, hT⟩
        · have := hat 0 (by omega); rwa [Deep.add_add] at this
        · have := hat 1 (by omega); rwa [Deep.add_add] at this
      have hspot : a.spot = none := by
        obtain ⟨_, _, _, _, _, h0, _⟩ := key 0 (by omega)
        simp only [Nat.zero_mul, Addr.add, if_pos] at h0
        unfold World.cell? at h0
        split at h0
        · split at h0
          · cases h0
          · rename_i hns; simpa using hns
        · cases h0
      obtain ⟨bb, off, sp0⟩ := a
      simp only at hspot; subst hspot
      have hadd : ∀ j, (Addr.mk bb off none).add j = ⟨bb, off + j, none⟩ := fun j => by unfold Addr.add; split <;> simp [*]
      refine ⟨bb, off, rfl, ?_, fun i hi => ?_⟩
      · obtain ⟨_, _, _, _, _, h0, _⟩ := key 0 (by omega)
        rw [hadd] at h0
        exact World.block_lt_of_cell? _ _ h0
      · have := key i hi
        simp only [hadd] at this
        exact this
end Go.Proofs.YtbgbfljbjpbinaaDoor
namespace Go.Proofs.YtbgbfljbjpbinaaDoor
set_option linter.unusedSimpArgs false
set_option linter.unusedVariables false
open Go.RowKit Go.Maps

/-- Between two steps of the script: the region at P, L, M, and the reference's blocked tiles at B, agree. -/
structure PlayR (w1 wr : World) (P L M N W H B : Nat) (blk : Nat → Bool) (lab : Nat → Int) (D : DataW Unit) : Prop where
  r : RgC wr P L M N W H (fun t => !blk t) lab D
  b : BoolsAt wr B N blk
  n : B ≠ P ∧ B ≠ L ∧ B ≠ M
  q : w1.heap.size ≤ L ∧ w1.heap.size ≤ M ∧ w1.heap.size ≤ B
  g : Grew w1 wr
theorem PlayR.grew {w1 wr w' : World} {P L M N W H B : Nat} {blk : Nat → Bool} {lab : Nat → Int} {D : DataW Unit} (h : PlayR w1 wr P L M N W H B blk lab D) (g : Grew wr w') : PlayR w1 w' P L M N W H B blk lab D :=
  ⟨h.r.grew g, h.b.grew g, h.n, h.q, h.g.trans g⟩
theorem askfr_not {blk : Nat → Bool} {b : Bool} {Ls : List Int} : AskFr (fun t => !blk t) b Ls ↔ AskFr blk (!b) Ls := by
  have key : ∀ x : Int, ((!blk x.toNat) = b) ↔ (blk x.toNat = !b) := fun x => by cases blk x.toNat <;> cases b <;> simp
  constructor
  · intro h i x hx
    exact ⟨(key x).1 (h i x hx).1, (h i x hx).2⟩
  · intro h i x hx
    exact ⟨(key x).2 (h i x hx).1, (h i x hx).2⟩
theorem rask_one (B N : Nat) (blk : Nat → Bool) (v : Option Addr) (n cap : Nat) (Ls : List Int) (now : Bool) (wrong : Int) (w : World) (hB : BoolsAt w B N blk) (hL : ListV w v n cap Ls) (hN : N ≤ 1024) (hn1 : n ≤ 100000) :
    Calls Tryd.prog 47 #[.slice (some ⟨B, 0, none⟩) N N, .slice v n cap, .bool now, .int .i64 wrong] w fun e w' => (∃ r : Int, e = .returned (.int .i64 r) ∧ ((r = 1 ∧ ¬ RngOk N Ls) ∨ (r = wrong ∧ RngOk N Ls ∧ ¬ AskFr blk now Ls) ∨ (r = 0 ∧ RngOk N Ls ∧ AskFr blk now Ls))) ∧ Grew w w' := by
  refine (rask_any B N blk v n cap Ls now wrong w hB hL hN hn1).mono ?_
  rintro e w' ⟨(⟨rfl, h⟩ | ⟨rfl, h⟩ | ⟨rfl, h⟩), hg⟩
  · exact ⟨⟨1, rfl, .inl ⟨rfl, h⟩⟩, hg⟩
  · exact ⟨⟨wrong, rfl, .inr (.inl ⟨rfl, h⟩)⟩, hg⟩
  · exact ⟨⟨0, rfl, .inr (.inr ⟨rfl, h⟩)⟩, hg⟩
theorem ListAt.head {w : World} {g c n : Nat} {Ls us : List Int} (h : ListAt w g 0 c (Ls ++ us)) : ListAt w g 0 c Ls :=
  ⟨by have := h.room; rw [List.length_append] at this; omega, h.top, h.lt, fun k x hx => h.cs k x (by rw [List.getElem?_append_left (List.getElem?_eq_some_iff.1 hx).1]; exact hx)⟩
theorem ListAt.turn2 {w w' : World} {g off c C E : Nat} {Ls : List Int} (h : ListAt w g off c Ls) (t : Turn2 C E w w') (h1 : g ≠ C) (h2 : g ≠ E) : ListAt w' g off c Ls :=
  ⟨h.room, h.top, Nat.lt_of_lt_of_le h.lt t.size, fun k x hx => (t.facts.1 _ _ h.lt h1 h2).trans (h.cs k x hx)⟩
theorem ListAt.turn {w w' : World} {g off c C : Nat} {Ls : List Int} (h : ListAt w g off c Ls) (t : Turn C w w') (h1 : g ≠ C) : ListAt w' g off c Ls := h.turn2 (t.two C) h1 h1
theorem RgC.turn {w w' : World} {P L M N W H C : Nat} {fr : Nat → Bool} {lab : Nat → Int} {D : DataW Unit} (h : RgC w P L M N W H fr lab D) (g : Turn C w w') (hP : P ≠ C) (hL : L ≠ C) (hM : M ≠ C) : RgC w' P L M N W H fr lab D :=
  h.turn2 (g.two C) ⟨hP, hP⟩ ⟨hL, hL⟩ ⟨hM, hM⟩

set_option maxRecDepth 100000 in
set_option maxHeartbeats 16000000 in
theorem regionPlays_any (W H S X Y x : Int) (v : Option Addr) (n cap : Nat) (w : World) (ad : Nat → Addr) (hE : Errs w ad) (hB : Script15 w v n) :
    Calls Tryd.prog 12 #[.agg #[.int .i64 W, .int .i64 H, .int .i64 S, .int .i64 X, .int .i64 Y], .slice v n cap, .int .i64 x] w fun e w' => e = .returned (.bool true) ∧ Grew w w' := by
  have HB : Hid (Script15 w v n) := hB
  have HE : Hid (∀ wr, Grew w wr → Errs wr ad) := fun wr g => hE.grew g
  clear hB
  by_cases hn : 40 < n
  · go_enter Tryd.func12, Tryd.ntmps12
    go_wp2_with (go_at_call 30; refine (alive15_any _ (ad 1) (ad 7) (ad 6) ((HE.out _ (by repeat (first | exact Grew.refl _ | assumption | refine Grew.drew ?_ | refine Grew.alloc ?_ _ | refine Grew.setCell ?_ (by (try simp only [World.size_alloc, World.size_drew]); omega) _ | refine Grew.trans ?_ (by assumption)))).cell 1 (by decide)) ((HE.out _ (by repeat (first | exact Grew.refl _ | assumption | refine Grew.drew ?_ | refine Grew.alloc ?_ _ | refine Grew.setCell ?_ (by (try simp only [World.size_alloc, World.size_drew]); omega) _ | refine Grew.trans ?_ (by assumption)))).cell 7 (by decide)) ((HE.out _ (by repeat (first | exact Grew.refl _ | assumption | refine Grew.drew ?_ | refine Grew.alloc ?_ _ | refine Grew.setCell ?_ (by (try simp only [World.size_alloc, World.size_drew]); omega) _ | refine Grew.trans ?_ (by assumption)))).cell 6 (by decide))).mono ?_; rintro e w1 ⟨rfl, hb⟩; obtain ⟨hc, hf⟩ := hb.facts; have hz := hb.size; (try simp only [World.size_alloc, World.size_drew] at hz); (try (have hcq := fun o => hc (w.heap.size) o (by (try simp only [World.size_alloc, World.size_drew]); omega))); (try (have hq : w.heap.size < w1.heap.size := by omega)))
    go_ret
    exact ⟨rfl, (by repeat (first | exact Grew.refl _ | assumption | refine Grew.drew ?_ | refine Grew.alloc ?_ _ | refine Grew.setCell ?_ (by (try simp only [World.size_alloc, World.size_drew]); omega) _ | refine Grew.trans ?_ (by assumption)))⟩
  cases hgr : gridB W H S X Y
  · go_enter Tryd.func12, Tryd.ntmps12
    go_wp2_with (first | (go_at_call 30; refine (alive15_any _ (ad 1) (ad 7) (ad 6) ((HE.out _ (by repeat (first | exact Grew.refl _ | assumption | refine Grew.drew ?_ | refine Grew.alloc ?_ _ | refine Grew.setCell ?_ (by (try simp only [World.size_alloc, World.size_drew]); omega) _ | refine Grew.trans ?_ (by assumption)))).cell 1 (by decide)) ((HE.out _ (by repeat (first | exact Grew.refl _ | assumption | refine Grew.drew ?_ | refine Grew.alloc ?_ _ | refine Grew.setCell ?_ (by (try simp only [World.size_alloc, World.size_drew]); omega) _ | refine Grew.trans ?_ (by assumption)))).cell 7 (by decide)) ((HE.out _ (by repeat (first | exact Grew.refl _ | assumption | refine Grew.drew ?_ | refine Grew.alloc ?_ _ | refine Grew.setCell ?_ (by (try simp only [World.size_alloc, World.size_drew]); omega) _ | refine Grew.trans ?_ (by assumption)))).cell 6 (by decide))).mono ?_; rintro e w1 ⟨rfl, hb⟩; obtain ⟨hc, hf⟩ := hb.facts; have hz := hb.size; (try simp only [World.size_alloc, World.size_drew] at hz); (try (have hcq := fun o => hc (w.heap.size) o (by (try simp only [World.size_alloc, World.size_drew]); omega))); (try (have hq : w.heap.size < w1.heap.size := by omega))) | (go_at_call 31; refine (rgnew_no _ _ _ _ _ _ (ad 1) (ad 0) ((HE.out _ (by repeat (first | exact Grew.refl _ | assumption | refine Grew.drew ?_ | refine Grew.alloc ?_ _ | refine Grew.setCell ?_ (by (try simp only [World.size_alloc, World.size_drew]); omega) _ | refine Grew.trans ?_ (by assumption)))).cell 1 (by decide)) ((HE.out _ (by repeat (first | exact Grew.refl _ | assumption | refine Grew.drew ?_ | refine Grew.alloc ?_ _ | refine Grew.setCell ?_ (by (try simp only [World.size_alloc, World.size_drew]); omega) _ | refine Grew.trans ?_ (by assumption)))).cell 0 (by decide)) hgr).mono ?_; rintro e w2 ⟨rfl, hb⟩; obtain ⟨hc, hf⟩ := hb.facts; have hz := hb.size; (try simp only [World.size_alloc, World.size_drew] at hz); (try (have hcq := fun o => hc (w.heap.size) o (by (try simp only [World.size_alloc, World.size_drew]); omega))); (try (have hq : w.heap.size < w2.heap.size := by omega))) | (go_at_call 26; refine (rgright_any _ _ _ _ _ _).mono ?_; rintro e w3 ⟨rfl, hb⟩; obtain ⟨hc, hf⟩ := hb.facts; have hz := hb.size; (try simp only [World.size_alloc, World.size_drew] at hz); (try (have hcq := fun o => hc (w.heap.size) o (by (try simp only [World.size_alloc, World.size_drew]); omega))); (try (have hq : w.heap.size < w3.heap.size := by omega))) | (go_at_call 27; refine (num_Form _ ad (HE.out _ (by repeat (first | exact Grew.refl _ | assumption | refine Grew.drew ?_ | refine Grew.alloc ?_ _ | refine Grew.setCell ?_ (by (try simp only [World.size_alloc, World.size_drew]); omega) _ | refine Grew.trans ?_ (by assumption))))).mono ?_; rintro e w4 ⟨rfl, hb⟩; obtain ⟨hc, hf⟩ := hb.facts; have hz := hb.size; (try simp only [World.size_alloc, World.size_drew] at hz); (try (have hcq := fun o => hc (w.heap.size) o (by (try simp only [World.size_alloc, World.size_drew]); omega))); (try (have hq : w.heap.size < w4.heap.size := by omega))))
    go_ret
    exact ⟨rfl, (by repeat (first | exact Grew.refl _ | assumption | refine Grew.drew ?_ | refine Grew.alloc ?_ _ | refine Grew.setCell ?_ (by (try simp only [World.size_alloc, World.size_drew]); omega) _ | refine Grew.trans ?_ (by assumption)))⟩
  obtain ⟨_, ⟨g1, g2, g3, g4, g5, g6⟩, _, _, fA⟩ := grid_facts hgr
  obtain ⟨W, rfl⟩ : ∃ W' : Nat, W = W' := ⟨W.toNat, by omega⟩
  obtain ⟨H, rfl⟩ : ∃ H' : Nat, H = H' := ⟨H.toNat, by omega⟩
  obtain ⟨N, hN⟩ : ∃ N : Nat, N = W * H := ⟨_, rfl⟩
  have hNi : (W : Int) * (H : Int) = (N : Int) := by rw [hN]; push_cast; rfl
  have hN1 : N ≤ 1024 := by omega
  have hN0 : 0 < N := by omega
  have hW1 : 1 ≤ W ∧ W ≤ 32 := by omega
  have HNW : Hid (N = W * H) := hN
  clear fA hN hE
  go_enter Tryd.func12, Tryd.ntmps12
  go_wp2_with fail
  (go_at_call 30; refine (alive15_any _ (ad 1) (ad 7) (ad 6) ((HE.out _ (by repeat (first | exact Grew.refl _ | assumption | refine Grew.drew ?_ | refine Grew.alloc ?_ _ | refine Grew.setCell ?_ (by (try simp only [World.size_alloc, World.size_drew]); omega) _ | refine Grew.trans ?_ (by assumption)))).cell 1 (by decide)) ((HE.out _ (by repeat (first | exact Grew.refl _ | assumption | refine Grew.drew ?_ | refine Grew.alloc ?_ _ | refine Grew.setCell ?_ (by (try simp only [World.size_alloc, World.size_drew]); omega) _ | refine Grew.trans ?_ (by assumption)))).cell 7 (by decide)) ((HE.out _ (by repeat (first | exact Grew.refl _ | assumption | refine Grew.drew ?_ | refine Grew.alloc ?_ _ | refine Grew.setCell ?_ (by (try simp only [World.size_alloc, World.size_drew]); omega) _ | refine Grew.trans ?_ (by assumption)))).cell 6 (by decide))).mono ?_; rintro e w1 ⟨rfl, hb⟩; obtain ⟨hc, hf⟩ := hb.facts; have hz := hb.size; (try simp only [World.size_alloc, World.size_drew] at hz); (try (have hcq := fun o => hc (w.heap.size) o (by (try simp only [World.size_alloc, World.size_drew]); omega))); (try (have hq : w.heap.size < w1.heap.size := by omega)))
  have hGw1 : Grew w w1 := (by repeat (first | exact Grew.refl _ | assumption | refine Grew.drew ?_ | refine Grew.alloc ?_ _ | refine Grew.setCell ?_ (by (try simp only [World.size_alloc, World.size_drew]); omega) _ | refine Grew.trans ?_ (by assumption)))
  have hzw : w.heap.size < w1.heap.size := by assumption
  have e0 : w1.cell? ⟨w.heap.size, 0, none⟩ = some (.int .i64 W) := by simp [go_sem, *]
  have HGD : Hid (w1.cell? ⟨w.heap.size, 0, none⟩ = some (.int .i64 W)) := e0
  clear e0
  go_wp2_with fail
  (go_at_call 31; refine (rgnew_yes W H N S X Y _ (ad 1) ((HE.out _ (hGw1.trans (by repeat (first | exact Grew.refl _ | assumption | refine Grew.drew ?_ | refine Grew.alloc ?_ _ | refine Grew.setCell ?_ (by (try simp only [World.size_alloc, World.size_drew]); omega) _ | refine Grew.trans ?_ (by assumption))))).cell 1 (by decide)) hgr HNW.out).mono ?_; rintro e w2 ⟨⟨P0, L0, M0, rfl, hR1, hS1, hP0, hL0, hM0⟩, hb⟩; obtain ⟨hc, hf⟩ := hb.facts; have hz := hb.size; (try simp only [World.size_alloc, World.size_drew] at hz); (try (have hcq := fun o => hc (w.heap.size) o (by (try simp only [World.size_alloc, World.size_drew]); omega))); (try (have hq : w.heap.size < w2.heap.size := by omega)))
  have hG12 : Grew w1 w2 := (by repeat (first | exact Grew.refl _ | assumption | refine Grew.drew ?_ | refine Grew.alloc ?_ _ | refine Grew.setCell ?_ (by (try simp only [World.size_alloc, World.size_drew]); omega) _ | refine Grew.trans ?_ (by assumption)))
  have HR2 : Hid (RgC w2 P0 L0 M0 N W H _ _ _) := new_c hW1.1 HNW.out hN0 hR1 hS1
  have hlt2 : P0 < w2.heap.size ∧ L0 < w2.heap.size ∧ M0 < w2.heap.size := ⟨hR1.hP, hR1.hL, hS1.lt⟩
  clear hR1 hS1
  go_wp2_with fail
  (go_at_call 26; refine (rgright_any _ _ _ _ _ _).mono ?_; rintro e w3 ⟨rfl, hb⟩; obtain ⟨hc, hf⟩ := hb.facts; have hz := hb.size; (try simp only [World.size_alloc, World.size_drew] at hz); (try (have hcq := fun o => hc (w.heap.size) o (by (try simp only [World.size_alloc, World.size_drew]); omega))); (try (have hq : w.heap.size < w3.heap.size := by omega)))
  have hG23 : Grew w2 w3 := (by repeat (first | exact Grew.refl _ | assumption | refine Grew.drew ?_ | refine Grew.alloc ?_ _ | refine Grew.setCell ?_ (by (try simp only [World.size_alloc, World.size_drew]); omega) _ | refine Grew.trans ?_ (by assumption)))
  rw [hgr]
  go_wp2_with fail
  (go_at_call 45; refine (all_any W H N S X Y _ HNW.out hN1 hN0).mono ?_; rintro e w4 ⟨⟨B, rfl, hB4, hBge⟩, hb⟩; obtain ⟨hc, hf⟩ := hb.facts; have hz := hb.size; (try simp only [World.size_alloc, World.size_drew] at hz); (try (have hcq := fun o => hc (w.heap.size) o (by (try simp only [World.size_alloc, World.size_drew]); omega))); (try (have hq : w.heap.size < w4.heap.size := by omega)))
  have hG24 : Grew w2 w4 := hG23.trans (by repeat (first | exact Grew.refl _ | assumption | refine Grew.drew ?_ | refine Grew.alloc ?_ _ | refine Grew.setCell ?_ (by (try simp only [World.size_alloc, World.size_drew]); omega) _ | refine Grew.trans ?_ (by assumption)))
  have hG3z := hG23.size
  have hz12 := hG12.size
  have HPL : Hid (PlayR w1 w4 P0 L0 M0 N W H B (fun _ => false) (fun _ => 0) _) := ⟨(HR2.out.grew hG24).congr fun t => by simp, hB4, by (try simp only [World.size_alloc] at hBge); omega, by (try simp only [World.size_alloc] at hBge); omega, hG12.trans hG24⟩
  clear HR2 hB4
  go_wp2_with fail
  go_loopw [7, 52] (fun p i wr => ∃ (k P L M : Nat) (blk : Nat → Bool) (lab : Nat → Int) (D : DataW Unit), k ≤ n ∧ p = .pointer (some ⟨P, 0, none⟩) ∧ i = .int .i64 k ∧ PlayR w1 wr P L M N W H B blk lab D) (fun p i wr => n - (intOf i).toNat)
  case atStart => exact ⟨0, P0, L0, M0, _, _, _, Nat.zero_le _, rfl, by simp, HPL.out.grew (by repeat (first | exact Grew.refl _ | assumption | refine Grew.drew ?_ | refine Grew.alloc ?_ _ | refine Grew.setCell ?_ (by (try simp only [World.size_alloc, World.size_drew]); omega) _ | refine Grew.trans ?_ (by assumption)))⟩
  case round =>
    obtain ⟨k, P, L, M, blk, lab, D, hk, rfl, rfl, hPl⟩ := hrel
    have HPl : Hid (PlayR w1 wr P L M N W H B blk lab D) := hPl
    have hGr : Grew w1 wr := hPl.g
    have hGwr : Grew w wr := hGw1.trans hGr
    have hzr := hGr.size
    have hlts : P < wr.heap.size ∧ L < wr.heap.size ∧ M < wr.heap.size ∧ B < wr.heap.size := ⟨hPl.r.r.hP, hPl.r.r.hL, hPl.r.s.lt, hPl.b.lt⟩
    have hnes := hPl.n
    have hqs := hPl.q
    clear hPl
    by_cases hlt : k < n
    · rcases HB.out with h0 | ⟨bb, off, rfl, hbb, hcells⟩
      · omega
      obtain ⟨kd, tv, tn, tc, Ls, k0, k1, hT⟩ := hcells k hlt
      have y0 : wr.cell? ⟨bb, off + k * 2, none⟩ = some (.int .i64 kd) := (hGwr.facts.1 _ _ hbb).trans k0
      have y1 : wr.cell? ⟨bb, off + k * 2 + 1, none⟩ = some (.slice tv tn tc) := (hGwr.facts.1 _ _ hbb).trans k1
      have HT : Hid (∀ wx, Grew w wx → TilesV wx tv tn tc Ls) := fun wx g => hT.grew g
      have HLn : Hid (tn = Ls.length) := hT.1.len
      clear hcells k0 k1 hT
      by_cases hbig : 200 < tn
      · go_wp2_with fail
        go_ret
        exact ⟨rfl, (by repeat (first | exact Grew.refl _ | assumption | refine Grew.drew ?_ | refine Grew.alloc ?_ _ | refine Grew.setCell ?_ (by (try simp only [World.size_alloc, World.size_drew]); omega) _ | refine Grew.trans ?_ (by assumption)))⟩
      · go_wp2_with fail
        (go_at_call 46; refine (pints_any tv tn tc Ls _ (HT.out _ (by repeat (first | exact Grew.refl _ | assumption | refine Grew.drew ?_ | refine Grew.alloc ?_ _ | refine Grew.setCell ?_ (by (try simp only [World.size_alloc, World.size_drew]); omega) _ | refine Grew.trans ?_ (by assumption)))) (by omega)).mono ?_; rintro e wA ⟨⟨g, c, rfl, hIn, hg0⟩, hb⟩; obtain ⟨hc, hf⟩ := hb.facts; have hz := hb.size; (try simp only [World.size_alloc, World.size_drew] at hz); (try (have hcq := fun o => hc (wr.heap.size) o (by (try simp only [World.size_alloc, World.size_drew]); omega))); (try (have hq : wr.heap.size < wA.heap.size := by omega)))
        (try simp only [World.size_alloc, World.size_setCell] at hg0)
        have hO0 : wA.cell? ⟨wr.heap.size, 0, none⟩ = some (.int .i64 kd) := by simp [go_sem, *]
        have hO1 : wA.cell? ⟨wr.heap.size, 1, none⟩ = some (.slice tv tn tc) := by simp [go_sem, *]
        have hGA : Grew wr wA := (by repeat (first | exact Grew.refl _ | assumption | refine Grew.drew ?_ | refine Grew.alloc ?_ _ | refine Grew.setCell ?_ (by (try simp only [World.size_alloc, World.size_drew]); omega) _ | refine Grew.trans ?_ (by assumption)))
        have hOA : wr.heap.size < wA.heap.size := by assumption
        have HO : Hid (wA.cell? ⟨wr.heap.size, 0, none⟩ = some (.int .i64 kd) ∧ wA.cell? ⟨wr.heap.size, 1, none⟩ = some (.slice tv tn tc)) := ⟨hO0, hO1⟩
        have HIA : Hid (ListAt wA g 0 c (Ls ++ marks)) := hIn
        have HPA : Hid (PlayR w1 wA P L M N W H B blk lab D) := HPl.out.grew hGA
        have hgA := hIn.lt
        have hGwA : Grew w wA := hGwr.trans hGA
        have HLs : Hid (∀ wx, Grew w wx → tn = 0 ∨ ∃ bt ot, tv = some ⟨bt, ot, none⟩ ∧ bt < w.heap.size ∧ ∀ j y, Ls[j]? = some y → wx.cell? ⟨bt, ot + j, none⟩ = some (.int .i64 y)) := fun wx gx => (HT.out w (Grew.refl _)).1.at_.imp id fun ⟨bt, ot, e, _, _, hb, hcs⟩ => ⟨bt, ot, e, hb, fun j y hy => (gx.facts.1 _ _ hb).trans (hcs j y hy)⟩
        clear hO0 hO1 hIn y0 y1
        by_cases k1 : kd = 1
        · subst k1
          have q0 := HO.out.1
          have q1 := HO.out.2
          go_wp2_with fail
          (go_at_call 47; refine (rask_one B N blk tv tn tc Ls false 8 _ (HPA.out.b.grew (by repeat (first | exact Grew.refl _ | assumption | refine Grew.drew ?_ | refine Grew.alloc ?_ _ | refine Grew.setCell ?_ (by (try simp only [World.size_alloc, World.size_drew]); omega) _ | refine Grew.trans ?_ (by assumption)))) (HT.out _ (hGwA.trans (by repeat (first | exact Grew.refl _ | assumption | refine Grew.drew ?_ | refine Grew.alloc ?_ _ | refine Grew.setCell ?_ (by (try simp only [World.size_alloc, World.size_drew]); omega) _ | refine Grew.trans ?_ (by assumption))))).1 hN1 (by omega)).mono ?_; rintro e wB ⟨⟨rr, rfl, hrr⟩, hb⟩; obtain ⟨hc, hf⟩ := hb.facts; have hz := hb.size; (try simp only [World.size_alloc, World.size_drew] at hz))
          have hGB : Grew wA wB := (by repeat (first | exact Grew.refl _ | assumption | refine Grew.drew ?_ | refine Grew.alloc ?_ _ | refine Grew.setCell ?_ (by (try simp only [World.size_alloc, World.size_drew]); omega) _ | refine Grew.trans ?_ (by assumption)))
          have hzB := hGB.size
          have HPB : Hid (PlayR w1 wB P L M N W H B blk lab D) := HPA.out.grew hGB
          have HIB : Hid (ListAt wB g 0 c (Ls ++ marks)) := HIA.out.grew hGB
          have HOB : Hid (wB.cell? ⟨wr.heap.size, 0, none⟩ = some (.int .i64 1) ∧ wB.cell? ⟨wr.heap.size, 1, none⟩ = some (.slice tv tn tc)) := ⟨(hGB.facts.1 _ _ hOA).trans HO.out.1, (hGB.facts.1 _ _ hOA).trans HO.out.2⟩
          have HRR : Hid ((rr = 1 ∧ ¬ RngOk N Ls) ∨ (rr = 8 ∧ RngOk N Ls ∧ ¬ AskFr blk false Ls) ∨ (rr = 0 ∧ RngOk N Ls ∧ AskFr blk false Ls)) := hrr
          clear hrr q0 q1
          go_wp2_with fail
          go_at_call 32
          refine (block_c P L M N W H _ lab D g 0 c Ls tn _ (ad 1) (ad 7) ((HE.out _ ((hGwA.trans hGB).trans (by repeat (first | exact Grew.refl _ | assumption | refine Grew.drew ?_ | refine Grew.alloc ?_ _ | refine Grew.setCell ?_ (by (try simp only [World.size_alloc, World.size_drew]); omega) _ | refine Grew.trans ?_ (by assumption))))).cell 1 (by decide)) ((HE.out _ ((hGwA.trans hGB).trans (by repeat (first | exact Grew.refl _ | assumption | refine Grew.drew ?_ | refine Grew.alloc ?_ _ | refine Grew.setCell ?_ (by (try simp only [World.size_alloc, World.size_drew]); omega) _ | refine Grew.trans ?_ (by assumption))))).cell 7 (by decide)) (HPB.out.r.grew (by repeat (first | exact Grew.refl _ | assumption | refine Grew.drew ?_ | refine Grew.alloc ?_ _ | refine Grew.setCell ?_ (by (try simp only [World.size_alloc, World.size_drew]); omega) _ | refine Grew.trans ?_ (by assumption)))) hW1 HNW.out hN1 (HIB.out.head (n := 0) |>.grew (by repeat (first | exact Grew.refl _ | assumption | refine Grew.drew ?_ | refine Grew.alloc ?_ _ | refine Grew.setCell ?_ (by (try simp only [World.size_alloc, World.size_drew]); omega) _ | refine Grew.trans ?_ (by assumption)))) HLn.out (by omega) (by constructor <;> omega)).mono ?_
          rintro e w8 (⟨rfl, hx1, hg8⟩ | ⟨rfl, hx1, hx2, hg8⟩ | ⟨lab2, D2, rfl, hx1, hx2, hR8, hT8⟩)
          · obtain rfl : rr = 1 := by
              rcases HRR.out with ⟨e, _⟩ | ⟨_, e, _⟩ | ⟨_, e, _⟩
              · exact e
              · exact absurd e hx1
              · exact absurd e hx1
            have hG8 : Grew wB w8 := (show Grew wB _ from (by repeat (first | exact Grew.refl _ | assumption | refine Grew.drew ?_ | refine Grew.alloc ?_ _ | refine Grew.setCell ?_ (by (try simp only [World.size_alloc, World.size_drew]); omega) _ | refine Grew.trans ?_ (by assumption)))).trans hg8
            clear hx1 hg8
            go_wp2_with fail
            (go_at_call 27; refine (num_Range _ ad (HE.out _ (((hGwA.trans hGB).trans hG8).trans (by repeat (first | exact Grew.refl _ | assumption | refine Grew.drew ?_ | refine Grew.alloc ?_ _ | refine Grew.setCell ?_ (by (try simp only [World.size_alloc, World.size_drew]); omega) _ | refine Grew.trans ?_ (by assumption)))))).mono ?_; rintro e wC ⟨rfl, hb⟩; obtain ⟨hc, hf⟩ := hb.facts; have hz := hb.size; (try simp only [World.size_alloc, World.size_drew] at hz))
            have hGC : Grew wB wC := hG8.trans (by repeat (first | exact Grew.refl _ | assumption | refine Grew.drew ?_ | refine Grew.alloc ?_ _ | refine Grew.setCell ?_ (by (try simp only [World.size_alloc, World.size_drew]); omega) _ | refine Grew.trans ?_ (by assumption)))
            have hzC := hGC.size
            have HPC : Hid (PlayR w1 wC P L M N W H B blk lab D) := HPB.out.grew hGC
            have HIC : Hid (ListAt wC g 0 c (Ls ++ marks)) := HIB.out.grew hGC
            have hOB : wr.heap.size < wB.heap.size := by omega
            have HOC : Hid (wC.cell? ⟨wr.heap.size, 0, none⟩ = some (.int .i64 1) ∧ wC.cell? ⟨wr.heap.size, 1, none⟩ = some (.slice tv tn tc)) := ⟨(hGC.facts.1 _ _ hOB).trans HOB.out.1, (hGC.facts.1 _ _ hOB).trans HOB.out.2⟩
            have q1 := HOC.out.2
            have hGs : Grew w wC := hGw1.trans HPC.out.g
            go_wp2_with fail
            obtain ⟨wo, rfl⟩ : ∃ wo : World, wo = wr := ⟨_, rfl⟩
            go_loopw [80] (fun i wr => ∃ j : Nat, j ≤ tn ∧ i = .int .i64 j ∧ Grew wC wr) (fun i wr => tn - (intOf i).toNat)
            case atStart => exact ⟨0, Nat.zero_le _, by simp, (by repeat (first | exact Grew.refl _ | assumption | refine Grew.drew ?_ | refine Grew.alloc ?_ _ | refine Grew.setCell ?_ (by (try simp only [World.size_alloc, World.size_drew]); omega) _ | refine Grew.trans ?_ (by assumption)))⟩
            case round =>
              obtain ⟨j, hj, rfl, hGj⟩ := hrel
              by_cases hlj : j < tn
              · rcases HLs.out _ (hGs.trans hGj) with h0 | ⟨bt, ot, rfl, hbt, hcs⟩
                · omega
                obtain ⟨y, hy⟩ : ∃ y, Ls[j]? = some y := ⟨Ls[j]'(by rw [← HLn.out]; exact hlj), by simp⟩
                have hyc := hcs j y hy
                clear hcs hy
                go_wp2_with fail
                go_roundw
                case rel => exact ⟨j + 1, by omega, by go_num, hGj⟩
                case measure => simp [intOf]; omega
              · obtain rfl : j = tn := by omega
                have HPj : Hid (PlayR w1 wr P L M N W H B blk lab D) := HPC.out.grew hGj
                have HIj : Hid (ListAt wr g 0 c (Ls ++ marks)) := HIC.out.grew hGj
                have hOl : wo.heap.size < wC.heap.size := by omega
                have HOj : Hid (wr.cell? ⟨wo.heap.size, 0, none⟩ = some (.int .i64 1) ∧ wr.cell? ⟨wo.heap.size, 1, none⟩ = some (.slice tv j tc)) := ⟨(hGj.facts.1 _ _ hOl).trans HOC.out.1, (hGj.facts.1 _ _ hOl).trans HOC.out.2⟩
                have f0 : wr.cell? ⟨w.heap.size, 0, none⟩ = some (.int .i64 W) := (HPj.out.g.facts.1 _ _ hzw).trans HGD.out
                have f1 := HOj.out.2
                have hGz : Grew w wr := hGw1.trans HPj.out.g
                have hzz := HPj.out.g.size
                go_wp2_with fail
                (go_at_call 49; refine (kept_any g c tv j tc Ls _ (HIj.out.grew (by repeat (first | exact Grew.refl _ | assumption | refine Grew.drew ?_ | refine Grew.alloc ?_ _ | refine Grew.setCell ?_ (by (try simp only [World.size_alloc, World.size_drew]); omega) _ | refine Grew.trans ?_ (by assumption)))) (HT.out _ (hGz.trans (by repeat (first | exact Grew.refl _ | assumption | refine Grew.drew ?_ | refine Grew.alloc ?_ _ | refine Grew.setCell ?_ (by (try simp only [World.size_alloc, World.size_drew]); omega) _ | refine Grew.trans ?_ (by assumption))))).1 (by omega)).mono ?_; rintro e wk ⟨rfl, hb⟩; obtain ⟨hc, hf⟩ := hb.facts; have hz := hb.size; (try simp only [World.size_alloc, World.size_drew] at hz); (try (have hcq := fun o => hc (w.heap.size) o (by (try simp only [World.size_alloc, World.size_drew]); omega))); (try (have hq : w.heap.size < wk.heap.size := by omega)))
                have hGk : Grew wr wk := (by repeat (first | exact Grew.refl _ | assumption | refine Grew.drew ?_ | refine Grew.alloc ?_ _ | refine Grew.setCell ?_ (by (try simp only [World.size_alloc, World.size_drew]); omega) _ | refine Grew.trans ?_ (by assumption)))
                go_wp2_with fail
                (go_at_call 51; refine (rlabels_any W H N B blk _ (HPj.out.b.grew (hGk.trans (by repeat (first | exact Grew.refl _ | assumption | refine Grew.drew ?_ | refine Grew.alloc ?_ _ | refine Grew.setCell ?_ (by (try simp only [World.size_alloc, World.size_drew]); omega) _ | refine Grew.trans ?_ (by assumption))))) hW1 HNW.out hN1 hN0).mono ?_; rintro e wl ⟨⟨v3, lab3, rfl, hv3, hc3⟩, hb⟩; obtain ⟨hc, hf⟩ := hb.facts; have hz := hb.size; (try simp only [World.size_alloc, World.size_drew] at hz))
                have hGl : Grew wr wl := hGk.trans (by repeat (first | exact Grew.refl _ | assumption | refine Grew.drew ?_ | refine Grew.alloc ?_ _ | refine Grew.setCell ?_ (by (try simp only [World.size_alloc, World.size_drew]); omega) _ | refine Grew.trans ?_ (by assumption)))
                have HV3 : Hid (IntsAt wl v3 ((List.range N).map lab)) := by
                  have e : (List.range N).map lab = (List.range N).map lab3 := List.map_congr_left fun j hj => HPj.out.r.c.unique hc3 hW1.1 HNW.out j (by simpa using hj)
                  rw [e]; exact hv3
                clear hv3 hc3
                go_wp2_with fail
                (go_at_call 50; refine (same_c P L M N W H _ lab D v3 _ (HPj.out.r.grew (hGl.trans (by repeat (first | exact Grew.refl _ | assumption | refine Grew.drew ?_ | refine Grew.alloc ?_ _ | refine Grew.setCell ?_ (by (try simp only [World.size_alloc, World.size_drew]); omega) _ | refine Grew.trans ?_ (by assumption))))) (HV3.out.grew (by repeat (first | exact Grew.refl _ | assumption | refine Grew.drew ?_ | refine Grew.alloc ?_ _ | refine Grew.setCell ?_ (by (try simp only [World.size_alloc, World.size_drew]); omega) _ | refine Grew.trans ?_ (by assumption)))) hW1 HNW.out hN1 hN0).mono ?_; rintro e wm ⟨rfl, hb⟩; obtain ⟨hc, hf⟩ := hb.facts; have hz := hb.size; (try simp only [World.size_alloc, World.size_drew] at hz))
                have hGm : Grew wr wm := hGl.trans (by repeat (first | exact Grew.refl _ | assumption | refine Grew.drew ?_ | refine Grew.alloc ?_ _ | refine Grew.setCell ?_ (by (try simp only [World.size_alloc, World.size_drew]); omega) _ | refine Grew.trans ?_ (by assumption)))
                go_wp2_with fail
                go_roundw
                case rel => exact ⟨k + 1, P, L, M, blk, lab, D, by omega, rfl, by go_num, HPj.out.grew hGm⟩
                case measure => simp [intOf]; omega
          · obtain rfl : rr = 8 := by
              rcases HRR.out with ⟨_, e⟩ | ⟨e, _⟩ | ⟨_, _, e⟩
              · exact absurd hx1 e
              · exact e
              · exact absurd (askfr_not.2 e) hx2
            have hG8 : Grew wB w8 := (show Grew wB _ from (by repeat (first | exact Grew.refl _ | assumption | refine Grew.drew ?_ | refine Grew.alloc ?_ _ | refine Grew.setCell ?_ (by (try simp only [World.size_alloc, World.size_drew]); omega) _ | refine Grew.trans ?_ (by assumption)))).trans hg8
            clear hx1 hx2 hg8
            go_wp2_with fail
            (go_at_call 27; refine (num_Blocked _ ad (HE.out _ (((hGwA.trans hGB).trans hG8).trans (by repeat (first | exact Grew.refl _ | assumption | refine Grew.drew ?_ | refine Grew.alloc ?_ _ | refine Grew.setCell ?_ (by (try simp only [World.size_alloc, World.size_drew]); omega) _ | refine Grew.trans ?_ (by assumption)))))).mono ?_; rintro e wC ⟨rfl, hb⟩; obtain ⟨hc, hf⟩ := hb.facts; have hz := hb.size; (try simp only [World.size_alloc, World.size_drew] at hz))
            have hGC : Grew wB wC := hG8.trans (by repeat (first | exact Grew.refl _ | assumption | refine Grew.drew ?_ | refine Grew.alloc ?_ _ | refine Grew.setCell ?_ (by (try simp only [World.size_alloc, World.size_drew]); omega) _ | refine Grew.trans ?_ (by assumption)))
            have hzC := hGC.size
            have HPC : Hid (PlayR w1 wC P L M N W H B blk lab D) := HPB.out.grew hGC
            have HIC : Hid (ListAt wC g 0 c (Ls ++ marks)) := HIB.out.grew hGC
            have hOB : wr.heap.size < wB.heap.size := by omega
            have HOC : Hid (wC.cell? ⟨wr.heap.size, 0, none⟩ = some (.int .i64 1) ∧ wC.cell? ⟨wr.heap.size, 1, none⟩ = some (.slice tv tn tc)) := ⟨(hGC.facts.1 _ _ hOB).trans HOB.out.1, (hGC.facts.1 _ _ hOB).trans HOB.out.2⟩
            have q1 := HOC.out.2
            have hGs : Grew w wC := hGw1.trans HPC.out.g
            go_wp2_with fail
            obtain ⟨wo, rfl⟩ : ∃ wo : World, wo = wr := ⟨_, rfl⟩
            go_loopw [80] (fun i wr => ∃ j : Nat, j ≤ tn ∧ i = .int .i64 j ∧ Grew wC wr) (fun i wr => tn - (intOf i).toNat)
            case atStart => exact ⟨0, Nat.zero_le _, by simp, (by repeat (first | exact Grew.refl _ | assumption | refine Grew.drew ?_ | refine Grew.alloc ?_ _ | refine Grew.setCell ?_ (by (try simp only [World.size_alloc, World.size_drew]); omega) _ | refine Grew.trans ?_ (by assumption)))⟩
            case round =>
              obtain ⟨j, hj, rfl, hGj⟩ := hrel
              by_cases hlj : j < tn
              · rcases HLs.out _ (hGs.trans hGj) with h0 | ⟨bt, ot, rfl, hbt, hcs⟩
                · omega
                obtain ⟨y, hy⟩ : ∃ y, Ls[j]? = some y := ⟨Ls[j]'(by rw [← HLn.out]; exact hlj), by simp⟩
                have hyc := hcs j y hy
                clear hcs hy
                go_wp2_with fail
                go_roundw
                case rel => exact ⟨j + 1, by omega, by go_num, hGj⟩
                case measure => simp [intOf]; omega
              · obtain rfl : j = tn := by omega
                have HPj : Hid (PlayR w1 wr P L M N W H B blk lab D) := HPC.out.grew hGj
                have HIj : Hid (ListAt wr g 0 c (Ls ++ marks)) := HIC.out.grew hGj
                have hOl : wo.heap.size < wC.heap.size := by omega
                have HOj : Hid (wr.cell? ⟨wo.heap.size, 0, none⟩ = some (.int .i64 1) ∧ wr.cell? ⟨wo.heap.size, 1, none⟩ = some (.slice tv j tc)) := ⟨(hGj.facts.1 _ _ hOl).trans HOC.out.1, (hGj.facts.1 _ _ hOl).trans HOC.out.2⟩
                have f0 : wr.cell? ⟨w.heap.size, 0, none⟩ = some (.int .i64 W) := (HPj.out.g.facts.1 _ _ hzw).trans HGD.out
                have f1 := HOj.out.2
                have hGz : Grew w wr := hGw1.trans HPj.out.g
                have hzz := HPj.out.g.size
                go_wp2_with fail
                (go_at_call 49; refine (kept_any g c tv j tc Ls _ (HIj.out.grew (by repeat (first | exact Grew.refl _ | assumption | refine Grew.drew ?_ | refine Grew.alloc ?_ _ | refine Grew.setCell ?_ (by (try simp only [World.size_alloc, World.size_drew]); omega) _ | refine Grew.trans ?_ (by assumption)))) (HT.out _ (hGz.trans (by repeat (first | exact Grew.refl _ | assumption | refine Grew.drew ?_ | refine Grew.alloc ?_ _ | refine Grew.setCell ?_ (by (try simp only [World.size_alloc, World.size_drew]); omega) _ | refine Grew.trans ?_ (by assumption))))).1 (by omega)).mono ?_; rintro e wk ⟨rfl, hb⟩; obtain ⟨hc, hf⟩ := hb.facts; have hz := hb.size; (try simp only [World.size_alloc, World.size_drew] at hz); (try (have hcq := fun o => hc (w.heap.size) o (by (try simp only [World.size_alloc, World.size_drew]); omega))); (try (have hq : w.heap.size < wk.heap.size := by omega)))
                have hGk : Grew wr wk := (by repeat (first | exact Grew.refl _ | assumption | refine Grew.drew ?_ | refine Grew.alloc ?_ _ | refine Grew.setCell ?_ (by (try simp only [World.size_alloc, World.size_drew]); omega) _ | refine Grew.trans ?_ (by assumption)))
                go_wp2_with fail
                (go_at_call 51; refine (rlabels_any W H N B blk _ (HPj.out.b.grew (hGk.trans (by repeat (first | exact Grew.refl _ | assumption | refine Grew.drew ?_ | refine Grew.alloc ?_ _ | refine Grew.setCell ?_ (by (try simp only [World.size_alloc, World.size_drew]); omega) _ | refine Grew.trans ?_ (by assumption))))) hW1 HNW.out hN1 hN0).mono ?_; rintro e wl ⟨⟨v3, lab3, rfl, hv3, hc3⟩, hb⟩; obtain ⟨hc, hf⟩ := hb.facts; have hz := hb.size; (try simp only [World.size_alloc, World.size_drew] at hz))
                have hGl : Grew wr wl := hGk.trans (by repeat (first | exact Grew.refl _ | assumption | refine Grew.drew ?_ | refine Grew.alloc ?_ _ | refine Grew.setCell ?_ (by (try simp only [World.size_alloc, World.size_drew]); omega) _ | refine Grew.trans ?_ (by assumption)))
                have HV3 : Hid (IntsAt wl v3 ((List.range N).map lab)) := by
                  have e : (List.range N).map lab = (List.range N).map lab3 := List.map_congr_left fun j hj => HPj.out.r.c.unique hc3 hW1.1 HNW.out j (by simpa using hj)
                  rw [e]; exact hv3
                clear hv3 hc3
                go_wp2_with fail
                (go_at_call 50; refine (same_c P L M N W H _ lab D v3 _ (HPj.out.r.grew (hGl.trans (by repeat (first | exact Grew.refl _ | assumption | refine Grew.drew ?_ | refine Grew.alloc ?_ _ | refine Grew.setCell ?_ (by (try simp only [World.size_alloc, World.size_drew]); omega) _ | refine Grew.trans ?_ (by assumption))))) (HV3.out.grew (by repeat (first | exact Grew.refl _ | assumption | refine Grew.drew ?_ | refine Grew.alloc ?_ _ | refine Grew.setCell ?_ (by (try simp only [World.size_alloc, World.size_drew]); omega) _ | refine Grew.trans ?_ (by assumption)))) hW1 HNW.out hN1 hN0).mono ?_; rintro e wm ⟨rfl, hb⟩; obtain ⟨hc, hf⟩ := hb.facts; have hz := hb.size; (try simp only [World.size_alloc, World.size_drew] at hz))
                have hGm : Grew wr wm := hGl.trans (by repeat (first | exact Grew.refl _ | assumption | refine Grew.drew ?_ | refine Grew.alloc ?_ _ | refine Grew.setCell ?_ (by (try simp only [World.size_alloc, World.size_drew]); omega) _ | refine Grew.trans ?_ (by assumption)))
                go_wp2_with fail
                go_roundw
                case rel => exact ⟨k + 1, P, L, M, blk, lab, D, by omega, rfl, by go_num, HPj.out.grew hGm⟩
                case measure => simp [intOf]; omega
          · obtain rfl : rr = 0 := by
              rcases HRR.out with ⟨_, e⟩ | ⟨_, _, e⟩ | ⟨e, _⟩
              · exact absurd hx1 e
              · exact absurd (askfr_not.1 hx2) e
              · exact e
            have HRng : Hid (RngOk N Ls) := hx1
            have hTe : Turn2 L M wB w8 := ((Grew.turn (show Grew wB _ from (by repeat (first | exact Grew.refl _ | assumption | refine Grew.drew ?_ | refine Grew.alloc ?_ _ | refine Grew.setCell ?_ (by (try simp only [World.size_alloc, World.size_drew]); omega) _ | refine Grew.trans ?_ (by assumption)))) L).two M).trans hT8
            have HRs : Hid (RgC w8 P L M N W H _ lab2 D2) := hR8
            have HBs : Hid (BoolsAt w8 B N blk) := HPB.out.b.turn2 hTe hnes.2.1 hnes.2.2
            have hz8 := hTe.size
            have hG8 : Grew w1 w8 := hTe.grew HPB.out.g hqs.1 hqs.2.1
            have HI8 : Hid (ListAt w8 g 0 c (Ls ++ marks)) := HIB.out.turn2 hTe (by omega) (by omega)
            have hOB : wr.heap.size < wB.heap.size := by omega
            have HO8 : Hid (w8.cell? ⟨wr.heap.size, 0, none⟩ = some (.int .i64 1) ∧ w8.cell? ⟨wr.heap.size, 1, none⟩ = some (.slice tv tn tc)) := ⟨(hTe.facts.1 _ _ hOB (by omega) (by omega)).trans HOB.out.1, (hTe.facts.1 _ _ hOB (by omega) (by omega)).trans HOB.out.2⟩
            clear hx1 hx2 hR8 hT8 hTe
            go_wp2_with fail
            (go_at_call 27; refine (num_nil _).mono ?_; rintro e w' ⟨rfl, rfl⟩)
            have q1 := HO8.out.2
            go_wp2_with fail
            obtain ⟨wo, rfl⟩ : ∃ wo : World, wo = wr := ⟨_, rfl⟩
            go_loopw [80] (fun i wr => ∃ j : Nat, j ≤ tn ∧ i = .int .i64 j ∧ BoolsAt wr B N (fun t => blk t || (Ls.take j).contains (t : Int)) ∧ Turn B w8 wr) (fun i wr => tn - (intOf i).toNat)
            case atStart => exact ⟨0, Nat.zero_le _, by simp, (HBs.out.congr fun t => by simp).grew (by repeat (first | exact Grew.refl _ | assumption | refine Grew.drew ?_ | refine Grew.alloc ?_ _ | refine Grew.setCell ?_ (by (try simp only [World.size_alloc, World.size_drew]); omega) _ | refine Grew.trans ?_ (by assumption))), Grew.turn (by repeat (first | exact Grew.refl _ | assumption | refine Grew.drew ?_ | refine Grew.alloc ?_ _ | refine Grew.setCell ?_ (by (try simp only [World.size_alloc, World.size_drew]); omega) _ | refine Grew.trans ?_ (by assumption))) B⟩
            case round =>
              obtain ⟨j, hj, rfl, hBj, hTj⟩ := hrel
              have HBj : Hid (BoolsAt wr B N (fun t => blk t || (Ls.take j).contains (t : Int))) := hBj
              have HTj : Hid (Turn B w8 wr) := hTj
              have hGj : Grew w1 wr := hTj.grew hG8 hqs.2.2
              have hfz := hBj.fz
              have hBlt := hBj.lt
              clear hBj hTj
              by_cases hlj : j < tn
              · rcases HLs.out _ (hGw1.trans hGj) with h0 | ⟨bt, ot, rfl, hbt, hcs⟩
                · omega
                obtain ⟨y, hy⟩ : ∃ y, Ls[j]? = some y := ⟨Ls[j]'(by rw [← HLn.out]; exact hlj), by simp⟩
                have hyc := hcs j y hy
                obtain ⟨r0, r1⟩ := HRng.out j y hy
                obtain ⟨t, rfl⟩ : ∃ t : Nat, y = t := ⟨y.toNat, by omega⟩
                have htN : t < N := by omega
                have htc := HBj.out.cs t htN
                have HY : Hid (Ls[j]? = some (t : Int)) := hy
                clear hcs hy
                go_wp2_with fail
                go_roundw
                case rel =>
                  refine ⟨j + 1, by omega, by go_num, (HBj.out.set htN true).congr fun u => ?_, HTj.out.setCell rfl _⟩
                  rw [List.take_add_one, HY.out]
                  by_cases e : u = t
                  · subst e; simp
                  · have e' : ¬ (u : Int) = (t : Int) := by omega
                    simp [e, e']
                case measure => simp [intOf]; omega
              · obtain rfl : j = tn := by omega
                have HPj : Hid (PlayR w1 wr P L M N W H B (fun t => blk t || Ls.contains (t : Int)) lab2 D2) := ⟨(HRs.out.turn HTj.out hnes.1.symm hnes.2.1.symm hnes.2.2.symm).congr fun t => by first | (simp; done) | (cases blk t <;> simp), HBj.out.congr fun t => by rw [HLn.out, List.take_length], hnes, hqs, hGj⟩
                have HIj : Hid (ListAt wr g 0 c (Ls ++ marks)) := HI8.out.turn HTj.out (by omega)
                have hOl : wo.heap.size < w8.heap.size := by omega
                have HOj : Hid (wr.cell? ⟨wo.heap.size, 0, none⟩ = some (.int .i64 1) ∧ wr.cell? ⟨wo.heap.size, 1, none⟩ = some (.slice tv j tc)) := ⟨(HTj.out.facts.1 _ _ hOl (by omega)).trans HO8.out.1, (HTj.out.facts.1 _ _ hOl (by omega)).trans HO8.out.2⟩
                have f0 : wr.cell? ⟨w.heap.size, 0, none⟩ = some (.int .i64 W) := (HPj.out.g.facts.1 _ _ hzw).trans HGD.out
                have f1 := HOj.out.2
                have hGz : Grew w wr := hGw1.trans HPj.out.g
                have hzz := HPj.out.g.size
                go_wp2_with fail
                (go_at_call 49; refine (kept_any g c tv j tc Ls _ (HIj.out.grew (by repeat (first | exact Grew.refl _ | assumption | refine Grew.drew ?_ | refine Grew.alloc ?_ _ | refine Grew.setCell ?_ (by (try simp only [World.size_alloc, World.size_drew]); omega) _ | refine Grew.trans ?_ (by assumption)))) (HT.out _ (hGz.trans (by repeat (first | exact Grew.refl _ | assumption | refine Grew.drew ?_ | refine Grew.alloc ?_ _ | refine Grew.setCell ?_ (by (try simp only [World.size_alloc, World.size_drew]); omega) _ | refine Grew.trans ?_ (by assumption))))).1 (by omega)).mono ?_; rintro e wk ⟨rfl, hb⟩; obtain ⟨hc, hf⟩ := hb.facts; have hz := hb.size; (try simp only [World.size_alloc, World.size_drew] at hz); (try (have hcq := fun o => hc (w.heap.size) o (by (try simp only [World.size_alloc, World.size_drew]); omega))); (try (have hq : w.heap.size < wk.heap.size := by omega)))
                have hGk : Grew wr wk := (by repeat (first | exact Grew.refl _ | assumption | refine Grew.drew ?_ | refine Grew.alloc ?_ _ | refine Grew.setCell ?_ (by (try simp only [World.size_alloc, World.size_drew]); omega) _ | refine Grew.trans ?_ (by assumption)))
                go_wp2_with fail
                (go_at_call 51; refine (rlabels_any W H N B (fun t => blk t || Ls.contains (t : Int)) _ (HPj.out.b.grew (hGk.trans (by repeat (first | exact Grew.refl _ | assumption | refine Grew.drew ?_ | refine Grew.alloc ?_ _ | refine Grew.setCell ?_ (by (try simp only [World.size_alloc, World.size_drew]); omega) _ | refine Grew.trans ?_ (by assumption))))) hW1 HNW.out hN1 hN0).mono ?_; rintro e wl ⟨⟨v3, lab3, rfl, hv3, hc3⟩, hb⟩; obtain ⟨hc, hf⟩ := hb.facts; have hz := hb.size; (try simp only [World.size_alloc, World.size_drew] at hz))
                have hGl : Grew wr wl := hGk.trans (by repeat (first | exact Grew.refl _ | assumption | refine Grew.drew ?_ | refine Grew.alloc ?_ _ | refine Grew.setCell ?_ (by (try simp only [World.size_alloc, World.size_drew]); omega) _ | refine Grew.trans ?_ (by assumption)))
                have HV3 : Hid (IntsAt wl v3 ((List.range N).map lab2)) := by
                  have e : (List.range N).map lab2 = (List.range N).map lab3 := List.map_congr_left fun j hj => HPj.out.r.c.unique hc3 hW1.1 HNW.out j (by simpa using hj)
                  rw [e]; exact hv3
                clear hv3 hc3
                go_wp2_with fail
                (go_at_call 50; refine (same_c P L M N W H _ lab2 D2 v3 _ (HPj.out.r.grew (hGl.trans (by repeat (first | exact Grew.refl _ | assumption | refine Grew.drew ?_ | refine Grew.alloc ?_ _ | refine Grew.setCell ?_ (by (try simp only [World.size_alloc, World.size_drew]); omega) _ | refine Grew.trans ?_ (by assumption))))) (HV3.out.grew (by repeat (first | exact Grew.refl _ | assumption | refine Grew.drew ?_ | refine Grew.alloc ?_ _ | refine Grew.setCell ?_ (by (try simp only [World.size_alloc, World.size_drew]); omega) _ | refine Grew.trans ?_ (by assumption)))) hW1 HNW.out hN1 hN0).mono ?_; rintro e wm ⟨rfl, hb⟩; obtain ⟨hc, hf⟩ := hb.facts; have hz := hb.size; (try simp only [World.size_alloc, World.size_drew] at hz))
                have hGm : Grew wr wm := hGl.trans (by repeat (first | exact Grew.refl _ | assumption | refine Grew.drew ?_ | refine Grew.alloc ?_ _ | refine Grew.setCell ?_ (by (try simp only [World.size_alloc, World.size_drew]); omega) _ | refine Grew.trans ?_ (by assumption)))
                go_wp2_with fail
                go_roundw
                case rel => exact ⟨k + 1, P, L, M, (fun t => blk t || Ls.contains (t : Int)), lab2, D2, by omega, rfl, by go_num, HPj.out.grew hGm⟩
                case measure => simp [intOf]; omega
        by_cases k2 : kd = 2
        · subst k2
          have q0 := HO.out.1
          have q1 := HO.out.2
          go_wp2_with fail
          (go_at_call 47; refine (rask_one B N blk tv tn tc Ls true 6 _ (HPA.out.b.grew (by repeat (first | exact Grew.refl _ | assumption | refine Grew.drew ?_ | refine Grew.alloc ?_ _ | refine Grew.setCell ?_ (by (try simp only [World.size_alloc, World.size_drew]); omega) _ | refine Grew.trans ?_ (by assumption)))) (HT.out _ (hGwA.trans (by repeat (first | exact Grew.refl _ | assumption | refine Grew.drew ?_ | refine Grew.alloc ?_ _ | refine Grew.setCell ?_ (by (try simp only [World.size_alloc, World.size_drew]); omega) _ | refine Grew.trans ?_ (by assumption))))).1 hN1 (by omega)).mono ?_; rintro e wB ⟨⟨rr, rfl, hrr⟩, hb⟩; obtain ⟨hc, hf⟩ := hb.facts; have hz := hb.size; (try simp only [World.size_alloc, World.size_drew] at hz))
          have hGB : Grew wA wB := (by repeat (first | exact Grew.refl _ | assumption | refine Grew.drew ?_ | refine Grew.alloc ?_ _ | refine Grew.setCell ?_ (by (try simp only [World.size_alloc, World.size_drew]); omega) _ | refine Grew.trans ?_ (by assumption)))
          have hzB := hGB.size
          have HPB : Hid (PlayR w1 wB P L M N W H B blk lab D) := HPA.out.grew hGB
          have HIB : Hid (ListAt wB g 0 c (Ls ++ marks)) := HIA.out.grew hGB
          have HOB : Hid (wB.cell? ⟨wr.heap.size, 0, none⟩ = some (.int .i64 2) ∧ wB.cell? ⟨wr.heap.size, 1, none⟩ = some (.slice tv tn tc)) := ⟨(hGB.facts.1 _ _ hOA).trans HO.out.1, (hGB.facts.1 _ _ hOA).trans HO.out.2⟩
          have HRR : Hid ((rr = 1 ∧ ¬ RngOk N Ls) ∨ (rr = 6 ∧ RngOk N Ls ∧ ¬ AskFr blk true Ls) ∨ (rr = 0 ∧ RngOk N Ls ∧ AskFr blk true Ls)) := hrr
          clear hrr q0 q1
          go_wp2_with fail
          go_at_call 35
          refine (free_c P L M N W H _ lab D g 0 c Ls tn _ (ad 1) (ad 6) ((HE.out _ ((hGwA.trans hGB).trans (by repeat (first | exact Grew.refl _ | assumption | refine Grew.drew ?_ | refine Grew.alloc ?_ _ | refine Grew.setCell ?_ (by (try simp only [World.size_alloc, World.size_drew]); omega) _ | refine Grew.trans ?_ (by assumption))))).cell 1 (by decide)) ((HE.out _ ((hGwA.trans hGB).trans (by repeat (first | exact Grew.refl _ | assumption | refine Grew.drew ?_ | refine Grew.alloc ?_ _ | refine Grew.setCell ?_ (by (try simp only [World.size_alloc, World.size_drew]); omega) _ | refine Grew.trans ?_ (by assumption))))).cell 6 (by decide)) (HPB.out.r.grew (by repeat (first | exact Grew.refl _ | assumption | refine Grew.drew ?_ | refine Grew.alloc ?_ _ | refine Grew.setCell ?_ (by (try simp only [World.size_alloc, World.size_drew]); omega) _ | refine Grew.trans ?_ (by assumption)))) hW1 HNW.out hN1 (HIB.out.head (n := 0) |>.grew (by repeat (first | exact Grew.refl _ | assumption | refine Grew.drew ?_ | refine Grew.alloc ?_ _ | refine Grew.setCell ?_ (by (try simp only [World.size_alloc, World.size_drew]); omega) _ | refine Grew.trans ?_ (by assumption)))) HLn.out (by omega) (by constructor <;> omega)).mono ?_
          rintro e w8 (⟨rfl, hx1, hg8⟩ | ⟨rfl, hx1, hx2, hg8⟩ | ⟨lab2, D2, rfl, hx1, hx2, hR8, hT8⟩)
          · obtain rfl : rr = 1 := by
              rcases HRR.out with ⟨e, _⟩ | ⟨_, e, _⟩ | ⟨_, e, _⟩
              · exact e
              · exact absurd e hx1
              · exact absurd e hx1
            have hG8 : Grew wB w8 := (show Grew wB _ from (by repeat (first | exact Grew.refl _ | assumption | refine Grew.drew ?_ | refine Grew.alloc ?_ _ | refine Grew.setCell ?_ (by (try simp only [World.size_alloc, World.size_drew]); omega) _ | refine Grew.trans ?_ (by assumption)))).trans hg8
            clear hx1 hg8
            go_wp2_with fail
            (go_at_call 27; refine (num_Range _ ad (HE.out _ (((hGwA.trans hGB).trans hG8).trans (by repeat (first | exact Grew.refl _ | assumption | refine Grew.drew ?_ | refine Grew.alloc ?_ _ | refine Grew.setCell ?_ (by (try simp only [World.size_alloc, World.size_drew]); omega) _ | refine Grew.trans ?_ (by assumption)))))).mono ?_; rintro e wC ⟨rfl, hb⟩; obtain ⟨hc, hf⟩ := hb.facts; have hz := hb.size; (try simp only [World.size_alloc, World.size_drew] at hz))
            have hGC : Grew wB wC := hG8.trans (by repeat (first | exact Grew.refl _ | assumption | refine Grew.drew ?_ | refine Grew.alloc ?_ _ | refine Grew.setCell ?_ (by (try simp only [World.size_alloc, World.size_drew]); omega) _ | refine Grew.trans ?_ (by assumption)))
            have hzC := hGC.size
            have HPC : Hid (PlayR w1 wC P L M N W H B blk lab D) := HPB.out.grew hGC
            have HIC : Hid (ListAt wC g 0 c (Ls ++ marks)) := HIB.out.grew hGC
            have hOB : wr.heap.size < wB.heap.size := by omega
            have HOC : Hid (wC.cell? ⟨wr.heap.size, 0, none⟩ = some (.int .i64 2) ∧ wC.cell? ⟨wr.heap.size, 1, none⟩ = some (.slice tv tn tc)) := ⟨(hGC.facts.1 _ _ hOB).trans HOB.out.1, (hGC.facts.1 _ _ hOB).trans HOB.out.2⟩
            have q1 := HOC.out.2
            have hGs : Grew w wC := hGw1.trans HPC.out.g
            go_wp2_with fail
            obtain ⟨wo, rfl⟩ : ∃ wo : World, wo = wr := ⟨_, rfl⟩
            go_loopw [105] (fun i wr => ∃ j : Nat, j ≤ tn ∧ i = .int .i64 j ∧ Grew wC wr) (fun i wr => tn - (intOf i).toNat)
            case atStart => exact ⟨0, Nat.zero_le _, by simp, (by repeat (first | exact Grew.refl _ | assumption | refine Grew.drew ?_ | refine Grew.alloc ?_ _ | refine Grew.setCell ?_ (by (try simp only [World.size_alloc, World.size_drew]); omega) _ | refine Grew.trans ?_ (by assumption)))⟩
            case round =>
              obtain ⟨j, hj, rfl, hGj⟩ := hrel
              by_cases hlj : j < tn
              · rcases HLs.out _ (hGs.trans hGj) with h0 | ⟨bt, ot, rfl, hbt, hcs⟩
                · omega
                obtain ⟨y, hy⟩ : ∃ y, Ls[j]? = some y := ⟨Ls[j]'(by rw [← HLn.out]; exact hlj), by simp⟩
                have hyc := hcs j y hy
                clear hcs hy
                go_wp2_with fail
                go_roundw
                case rel => exact ⟨j + 1, by omega, by go_num, hGj⟩
                case measure => simp [intOf]; omega
              · obtain rfl : j = tn := by omega
                have HPj : Hid (PlayR w1 wr P L M N W H B blk lab D) := HPC.out.grew hGj
                have HIj : Hid (ListAt wr g 0 c (Ls ++ marks)) := HIC.out.grew hGj
                have hOl : wo.heap.size < wC.heap.size := by omega
                have HOj : Hid (wr.cell? ⟨wo.heap.size, 0, none⟩ = some (.int .i64 2) ∧ wr.cell? ⟨wo.heap.size, 1, none⟩ = some (.slice tv j tc)) := ⟨(hGj.facts.1 _ _ hOl).trans HOC.out.1, (hGj.facts.1 _ _ hOl).trans HOC.out.2⟩
                have f0 : wr.cell? ⟨w.heap.size, 0, none⟩ = some (.int .i64 W) := (HPj.out.g.facts.1 _ _ hzw).trans HGD.out
                have f1 := HOj.out.2
                have hGz : Grew w wr := hGw1.trans HPj.out.g
                have hzz := HPj.out.g.size
                go_wp2_with fail
                (go_at_call 49; refine (kept_any g c tv j tc Ls _ (HIj.out.grew (by repeat (first | exact Grew.refl _ | assumption | refine Grew.drew ?_ | refine Grew.alloc ?_ _ | refine Grew.setCell ?_ (by (try simp only [World.size_alloc, World.size_drew]); omega) _ | refine Grew.trans ?_ (by assumption)))) (HT.out _ (hGz.trans (by repeat (first | exact Grew.refl _ | assumption | refine Grew.drew ?_ | refine Grew.alloc ?_ _ | refine Grew.setCell ?_ (by (try simp only [World.size_alloc, World.size_drew]); omega) _ | refine Grew.trans ?_ (by assumption))))).1 (by omega)).mono ?_; rintro e wk ⟨rfl, hb⟩; obtain ⟨hc, hf⟩ := hb.facts; have hz := hb.size; (try simp only [World.size_alloc, World.size_drew] at hz); (try (have hcq := fun o => hc (w.heap.size) o (by (try simp only [World.size_alloc, World.size_drew]); omega))); (try (have hq : w.heap.size < wk.heap.size := by omega)))
                have hGk : Grew wr wk := (by repeat (first | exact Grew.refl _ | assumption | refine Grew.drew ?_ | refine Grew.alloc ?_ _ | refine Grew.setCell ?_ (by (try simp only [World.size_alloc, World.size_drew]); omega) _ | refine Grew.trans ?_ (by assumption)))
                go_wp2_with fail
                (go_at_call 51; refine (rlabels_any W H N B blk _ (HPj.out.b.grew (hGk.trans (by repeat (first | exact Grew.refl _ | assumption | refine Grew.drew ?_ | refine Grew.alloc ?_ _ | refine Grew.setCell ?_ (by (try simp only [World.size_alloc, World.size_drew]); omega) _ | refine Grew.trans ?_ (by assumption))))) hW1 HNW.out hN1 hN0).mono ?_; rintro e wl ⟨⟨v3, lab3, rfl, hv3, hc3⟩, hb⟩; obtain ⟨hc, hf⟩ := hb.facts; have hz := hb.size; (try simp only [World.size_alloc, World.size_drew] at hz))
                have hGl : Grew wr wl := hGk.trans (by repeat (first | exact Grew.refl _ | assumption | refine Grew.drew ?_ | refine Grew.alloc ?_ _ | refine Grew.setCell ?_ (by (try simp only [World.size_alloc, World.size_drew]); omega) _ | refine Grew.trans ?_ (by assumption)))
                have HV3 : Hid (IntsAt wl v3 ((List.range N).map lab)) := by
                  have e : (List.range N).map lab = (List.range N).map lab3 := List.map_congr_left fun j hj => HPj.out.r.c.unique hc3 hW1.1 HNW.out j (by simpa using hj)
                  rw [e]; exact hv3
                clear hv3 hc3
                go_wp2_with fail
                (go_at_call 50; refine (same_c P L M N W H _ lab D v3 _ (HPj.out.r.grew (hGl.trans (by repeat (first | exact Grew.refl _ | assumption | refine Grew.drew ?_ | refine Grew.alloc ?_ _ | refine Grew.setCell ?_ (by (try simp only [World.size_alloc, World.size_drew]); omega) _ | refine Grew.trans ?_ (by assumption))))) (HV3.out.grew (by repeat (first | exact Grew.refl _ | assumption | refine Grew.drew ?_ | refine Grew.alloc ?_ _ | refine Grew.setCell ?_ (by (try simp only [World.size_alloc, World.size_drew]); omega) _ | refine Grew.trans ?_ (by assumption)))) hW1 HNW.out hN1 hN0).mono ?_; rintro e wm ⟨rfl, hb⟩; obtain ⟨hc, hf⟩ := hb.facts; have hz := hb.size; (try simp only [World.size_alloc, World.size_drew] at hz))
                have hGm : Grew wr wm := hGl.trans (by repeat (first | exact Grew.refl _ | assumption | refine Grew.drew ?_ | refine Grew.alloc ?_ _ | refine Grew.setCell ?_ (by (try simp only [World.size_alloc, World.size_drew]); omega) _ | refine Grew.trans ?_ (by assumption)))
                go_wp2_with fail
                go_roundw
                case rel => exact ⟨k + 1, P, L, M, blk, lab, D, by omega, rfl, by go_num, HPj.out.grew hGm⟩
                case measure => simp [intOf]; omega
          · obtain rfl : rr = 6 := by
              rcases HRR.out with ⟨_, e⟩ | ⟨e, _⟩ | ⟨_, _, e⟩
              · exact absurd hx1 e
              · exact e
              · exact absurd (askfr_not.2 e) hx2
            have hG8 : Grew wB w8 := (show Grew wB _ from (by repeat (first | exact Grew.refl _ | assumption | refine Grew.drew ?_ | refine Grew.alloc ?_ _ | refine Grew.setCell ?_ (by (try simp only [World.size_alloc, World.size_drew]); omega) _ | refine Grew.trans ?_ (by assumption)))).trans hg8
            clear hx1 hx2 hg8
            go_wp2_with fail
            (go_at_call 27; refine (num_State _ ad (HE.out _ (((hGwA.trans hGB).trans hG8).trans (by repeat (first | exact Grew.refl _ | assumption | refine Grew.drew ?_ | refine Grew.alloc ?_ _ | refine Grew.setCell ?_ (by (try simp only [World.size_alloc, World.size_drew]); omega) _ | refine Grew.trans ?_ (by assumption)))))).mono ?_; rintro e wC ⟨rfl, hb⟩; obtain ⟨hc, hf⟩ := hb.facts; have hz := hb.size; (try simp only [World.size_alloc, World.size_drew] at hz))
            have hGC : Grew wB wC := hG8.trans (by repeat (first | exact Grew.refl _ | assumption | refine Grew.drew ?_ | refine Grew.alloc ?_ _ | refine Grew.setCell ?_ (by (try simp only [World.size_alloc, World.size_drew]); omega) _ | refine Grew.trans ?_ (by assumption)))
            have hzC := hGC.size
            have HPC : Hid (PlayR w1 wC P L M N W H B blk lab D) := HPB.out.grew hGC
            have HIC : Hid (ListAt wC g 0 c (Ls ++ marks)) := HIB.out.grew hGC
            have hOB : wr.heap.size < wB.heap.size := by omega
            have HOC : Hid (wC.cell? ⟨wr.heap.size, 0, none⟩ = some (.int .i64 2) ∧ wC.cell? ⟨wr.heap.size, 1, none⟩ = some (.slice tv tn tc)) := ⟨(hGC.facts.1 _ _ hOB).trans HOB.out.1, (hGC.facts.1 _ _ hOB).trans HOB.out.2⟩
            have q1 := HOC.out.2
            have hGs : Grew w wC := hGw1.trans HPC.out.g
            go_wp2_with fail
            obtain ⟨wo, rfl⟩ : ∃ wo : World, wo = wr := ⟨_, rfl⟩
            go_loopw [105] (fun i wr => ∃ j : Nat, j ≤ tn ∧ i = .int .i64 j ∧ Grew wC wr) (fun i wr => tn - (intOf i).toNat)
            case atStart => exact ⟨0, Nat.zero_le _, by simp, (by repeat (first | exact Grew.refl _ | assumption | refine Grew.drew ?_ | refine Grew.alloc ?_ _ | refine Grew.setCell ?_ (by (try simp only [World.size_alloc, World.size_drew]); omega) _ | refine Grew.trans ?_ (by assumption)))⟩
            case round =>
              obtain ⟨j, hj, rfl, hGj⟩ := hrel
              by_cases hlj : j < tn
              · rcases HLs.out _ (hGs.trans hGj) with h0 | ⟨bt, ot, rfl, hbt, hcs⟩
                · omega
                obtain ⟨y, hy⟩ : ∃ y, Ls[j]? = some y := ⟨Ls[j]'(by rw [← HLn.out]; exact hlj), by simp⟩
                have hyc := hcs j y hy
                clear hcs hy
                go_wp2_with fail
                go_roundw
                case rel => exact ⟨j + 1, by omega, by go_num, hGj⟩
                case measure => simp [intOf]; omega
              · obtain rfl : j = tn := by omega
                have HPj : Hid (PlayR w1 wr P L M N W H B blk lab D) := HPC.out.grew hGj
                have HIj : Hid (ListAt wr g 0 c (Ls ++ marks)) := HIC.out.grew hGj
                have hOl : wo.heap.size < wC.heap.size := by omega
                have HOj : Hid (wr.cell? ⟨wo.heap.size, 0, none⟩ = some (.int .i64 2) ∧ wr.cell? ⟨wo.heap.size, 1, none⟩ = some (.slice tv j tc)) := ⟨(hGj.facts.1 _ _ hOl).trans HOC.out.1, (hGj.facts.1 _ _ hOl).trans HOC.out.2⟩
                have f0 : wr.cell? ⟨w.heap.size, 0, none⟩ = some (.int .i64 W) := (HPj.out.g.facts.1 _ _ hzw).trans HGD.out
                have f1 := HOj.out.2
                have hGz : Grew w wr := hGw1.trans HPj.out.g
                have hzz := HPj.out.g.size
                go_wp2_with fail
                (go_at_call 49; refine (kept_any g c tv j tc Ls _ (HIj.out.grew (by repeat (first | exact Grew.refl _ | assumption | refine Grew.drew ?_ | refine Grew.alloc ?_ _ | refine Grew.setCell ?_ (by (try simp only [World.size_alloc, World.size_drew]); omega) _ | refine Grew.trans ?_ (by assumption)))) (HT.out _ (hGz.trans (by repeat (first | exact Grew.refl _ | assumption | refine Grew.drew ?_ | refine Grew.alloc ?_ _ | refine Grew.setCell ?_ (by (try simp only [World.size_alloc, World.size_drew]); omega) _ | refine Grew.trans ?_ (by assumption))))).1 (by omega)).mono ?_; rintro e wk ⟨rfl, hb⟩; obtain ⟨hc, hf⟩ := hb.facts; have hz := hb.size; (try simp only [World.size_alloc, World.size_drew] at hz); (try (have hcq := fun o => hc (w.heap.size) o (by (try simp only [World.size_alloc, World.size_drew]); omega))); (try (have hq : w.heap.size < wk.heap.size := by omega)))
                have hGk : Grew wr wk := (by repeat (first | exact Grew.refl _ | assumption | refine Grew.drew ?_ | refine Grew.alloc ?_ _ | refine Grew.setCell ?_ (by (try simp only [World.size_alloc, World.size_drew]); omega) _ | refine Grew.trans ?_ (by assumption)))
                go_wp2_with fail
                (go_at_call 51; refine (rlabels_any W H N B blk _ (HPj.out.b.grew (hGk.trans (by repeat (first | exact Grew.refl _ | assumption | refine Grew.drew ?_ | refine Grew.alloc ?_ _ | refine Grew.setCell ?_ (by (try simp only [World.size_alloc, World.size_drew]); omega) _ | refine Grew.trans ?_ (by assumption))))) hW1 HNW.out hN1 hN0).mono ?_; rintro e wl ⟨⟨v3, lab3, rfl, hv3, hc3⟩, hb⟩; obtain ⟨hc, hf⟩ := hb.facts; have hz := hb.size; (try simp only [World.size_alloc, World.size_drew] at hz))
                have hGl : Grew wr wl := hGk.trans (by repeat (first | exact Grew.refl _ | assumption | refine Grew.drew ?_ | refine Grew.alloc ?_ _ | refine Grew.setCell ?_ (by (try simp only [World.size_alloc, World.size_drew]); omega) _ | refine Grew.trans ?_ (by assumption)))
                have HV3 : Hid (IntsAt wl v3 ((List.range N).map lab)) := by
                  have e : (List.range N).map lab = (List.range N).map lab3 := List.map_congr_left fun j hj => HPj.out.r.c.unique hc3 hW1.1 HNW.out j (by simpa using hj)
                  rw [e]; exact hv3
                clear hv3 hc3
                go_wp2_with fail
                (go_at_call 50; refine (same_c P L M N W H _ lab D v3 _ (HPj.out.r.grew (hGl.trans (by repeat (first | exact Grew.refl _ | assumption | refine Grew.drew ?_ | refine Grew.alloc ?_ _ | refine Grew.setCell ?_ (by (try simp only [World.size_alloc, World.size_drew]); omega) _ | refine Grew.trans ?_ (by assumption))))) (HV3.out.grew (by repeat (first | exact Grew.refl _ | assumption | refine Grew.drew ?_ | refine Grew.alloc ?_ _ | refine Grew.setCell ?_ (by (try simp only [World.size_alloc, World.size_drew]); omega) _ | refine Grew.trans ?_ (by assumption)))) hW1 HNW.out hN1 hN0).mono ?_; rintro e wm ⟨rfl, hb⟩; obtain ⟨hc, hf⟩ := hb.facts; have hz := hb.size; (try simp only [World.size_alloc, World.size_drew] at hz))
                have hGm : Grew wr wm := hGl.trans (by repeat (first | exact Grew.refl _ | assumption | refine Grew.drew ?_ | refine Grew.alloc ?_ _ | refine Grew.setCell ?_ (by (try simp only [World.size_alloc, World.size_drew]); omega) _ | refine Grew.trans ?_ (by assumption)))
                go_wp2_with fail
                go_roundw
                case rel => exact ⟨k + 1, P, L, M, blk, lab, D, by omega, rfl, by go_num, HPj.out.grew hGm⟩
                case measure => simp [intOf]; omega
          · obtain rfl : rr = 0 := by
              rcases HRR.out with ⟨_, e⟩ | ⟨_, _, e⟩ | ⟨e, _⟩
              · exact absurd hx1 e
              · exact absurd (askfr_not.1 hx2) e
              · exact e
            have HRng : Hid (RngOk N Ls) := hx1
            have hTe : Turn2 L M wB w8 := ((Grew.turn (show Grew wB _ from (by repeat (first | exact Grew.refl _ | assumption | refine Grew.drew ?_ | refine Grew.alloc ?_ _ | refine Grew.setCell ?_ (by (try simp only [World.size_alloc, World.size_drew]); omega) _ | refine Grew.trans ?_ (by assumption)))) L).two M).trans hT8
            have HRs : Hid (RgC w8 P L M N W H _ lab2 D2) := hR8
            have HBs : Hid (BoolsAt w8 B N blk) := HPB.out.b.turn2 hTe hnes.2.1 hnes.2.2
            have hz8 := hTe.size
            have hG8 : Grew w1 w8 := hTe.grew HPB.out.g hqs.1 hqs.2.1
            have HI8 : Hid (ListAt w8 g 0 c (Ls ++ marks)) := HIB.out.turn2 hTe (by omega) (by omega)
            have hOB : wr.heap.size < wB.heap.size := by omega
            have HO8 : Hid (w8.cell? ⟨wr.heap.size, 0, none⟩ = some (.int .i64 2) ∧ w8.cell? ⟨wr.heap.size, 1, none⟩ = some (.slice tv tn tc)) := ⟨(hTe.facts.1 _ _ hOB (by omega) (by omega)).trans HOB.out.1, (hTe.facts.1 _ _ hOB (by omega) (by omega)).trans HOB.out.2⟩
            clear hx1 hx2 hR8 hT8 hTe
            go_wp2_with fail
            (go_at_call 27; refine (num_nil _).mono ?_; rintro e w' ⟨rfl, rfl⟩)
            have q1 := HO8.out.2
            go_wp2_with fail
            obtain ⟨wo, rfl⟩ : ∃ wo : World, wo = wr := ⟨_, rfl⟩
            go_loopw [105] (fun i wr => ∃ j : Nat, j ≤ tn ∧ i = .int .i64 j ∧ BoolsAt wr B N (fun t => blk t && !(Ls.take j).contains (t : Int)) ∧ Turn B w8 wr) (fun i wr => tn - (intOf i).toNat)
            case atStart => exact ⟨0, Nat.zero_le _, by simp, (HBs.out.congr fun t => by simp).grew (by repeat (first | exact Grew.refl _ | assumption | refine Grew.drew ?_ | refine Grew.alloc ?_ _ | refine Grew.setCell ?_ (by (try simp only [World.size_alloc, World.size_drew]); omega) _ | refine Grew.trans ?_ (by assumption))), Grew.turn (by repeat (first | exact Grew.refl _ | assumption | refine Grew.drew ?_ | refine Grew.alloc ?_ _ | refine Grew.setCell ?_ (by (try simp only [World.size_alloc, World.size_drew]); omega) _ | refine Grew.trans ?_ (by assumption))) B⟩
            case round =>
              obtain ⟨j, hj, rfl, hBj, hTj⟩ := hrel
              have HBj : Hid (BoolsAt wr B N (fun t => blk t && !(Ls.take j).contains (t : Int))) := hBj
              have HTj : Hid (Turn B w8 wr) := hTj
              have hGj : Grew w1 wr := hTj.grew hG8 hqs.2.2
              have hfz := hBj.fz
              have hBlt := hBj.lt
              clear hBj hTj
              by_cases hlj : j < tn
              · rcases HLs.out _ (hGw1.trans hGj) with h0 | ⟨bt, ot, rfl, hbt, hcs⟩
                · omega
                obtain ⟨y, hy⟩ : ∃ y, Ls[j]? = some y := ⟨Ls[j]'(by rw [← HLn.out]; exact hlj), by simp⟩
                have hyc := hcs j y hy
                obtain ⟨r0, r1⟩ := HRng.out j y hy
                obtain ⟨t, rfl⟩ : ∃ t : Nat, y = t := ⟨y.toNat, by omega⟩
                have htN : t < N := by omega
                have htc := HBj.out.cs t htN
                have HY : Hid (Ls[j]? = some (t : Int)) := hy
                clear hcs hy
                go_wp2_with fail
                go_roundw
                case rel =>
                  refine ⟨j + 1, by omega, by go_num, (HBj.out.set htN false).congr fun u => ?_, HTj.out.setCell rfl _⟩
                  rw [List.take_add_one, HY.out]
                  by_cases e : u = t
                  · subst e; simp
                  · have e' : ¬ (u : Int) = (t : Int) := by omega
                    simp [e, e']
                case measure => simp [intOf]; omega
              · obtain rfl : j = tn := by omega
                have HPj : Hid (PlayR w1 wr P L M N W H B (fun t => blk t && !Ls.contains (t : Int)) lab2 D2) := ⟨(HRs.out.turn HTj.out hnes.1.symm hnes.2.1.symm hnes.2.2.symm).congr fun t => by first | (simp; done) | (cases blk t <;> simp), HBj.out.congr fun t => by rw [HLn.out, List.take_length], hnes, hqs, hGj⟩
                have HIj : Hid (ListAt wr g 0 c (Ls ++ marks)) := HI8.out.turn HTj.out (by omega)
                have hOl : wo.heap.size < w8.heap.size := by omega
                have HOj : Hid (wr.cell? ⟨wo.heap.size, 0, none⟩ = some (.int .i64 2) ∧ wr.cell? ⟨wo.heap.size, 1, none⟩ = some (.slice tv j tc)) := ⟨(HTj.out.facts.1 _ _ hOl (by omega)).trans HO8.out.1, (HTj.out.facts.1 _ _ hOl (by omega)).trans HO8.out.2⟩
                have f0 : wr.cell? ⟨w.heap.size, 0, none⟩ = some (.int .i64 W) := (HPj.out.g.facts.1 _ _ hzw).trans HGD.out
                have f1 := HOj.out.2
                have hGz : Grew w wr := hGw1.trans HPj.out.g
                have hzz := HPj.out.g.size
                go_wp2_with fail
                (go_at_call 49; refine (kept_any g c tv j tc Ls _ (HIj.out.grew (by repeat (first | exact Grew.refl _ | assumption | refine Grew.drew ?_ | refine Grew.alloc ?_ _ | refine Grew.setCell ?_ (by (try simp only [World.size_alloc, World.size_drew]); omega) _ | refine Grew.trans ?_ (by assumption)))) (HT.out _ (hGz.trans (by repeat (first | exact Grew.refl _ | assumption | refine Grew.drew ?_ | refine Grew.alloc ?_ _ | refine Grew.setCell ?_ (by (try simp only [World.size_alloc, World.size_drew]); omega) _ | refine Grew.trans ?_ (by assumption))))).1 (by omega)).mono ?_; rintro e wk ⟨rfl, hb⟩; obtain ⟨hc, hf⟩ := hb.facts; have hz := hb.size; (try simp only [World.size_alloc, World.size_drew] at hz); (try (have hcq := fun o => hc (w.heap.size) o (by (try simp only [World.size_alloc, World.size_drew]); omega))); (try (have hq : w.heap.size < wk.heap.size := by omega)))
                have hGk : Grew wr wk := (by repeat (first | exact Grew.refl _ | assumption | refine Grew.drew ?_ | refine Grew.alloc ?_ _ | refine Grew.setCell ?_ (by (try simp only [World.size_alloc, World.size_drew]); omega) _ | refine Grew.trans ?_ (by assumption)))
                go_wp2_with fail
                (go_at_call 51; refine (rlabels_any W H N B (fun t => blk t && !Ls.contains (t : Int)) _ (HPj.out.b.grew (hGk.trans (by repeat (first | exact Grew.refl _ | assumption | refine Grew.drew ?_ | refine Grew.alloc ?_ _ | refine Grew.setCell ?_ (by (try simp only [World.size_alloc, World.size_drew]); omega) _ | refine Grew.trans ?_ (by assumption))))) hW1 HNW.out hN1 hN0).mono ?_; rintro e wl ⟨⟨v3, lab3, rfl, hv3, hc3⟩, hb⟩; obtain ⟨hc, hf⟩ := hb.facts; have hz := hb.size; (try simp only [World.size_alloc, World.size_drew] at hz))
                have hGl : Grew wr wl := hGk.trans (by repeat (first | exact Grew.refl _ | assumption | refine Grew.drew ?_ | refine Grew.alloc ?_ _ | refine Grew.setCell ?_ (by (try simp only [World.size_alloc, World.size_drew]); omega) _ | refine Grew.trans ?_ (by assumption)))
                have HV3 : Hid (IntsAt wl v3 ((List.range N).map lab2)) := by
                  have e : (List.range N).map lab2 = (List.range N).map lab3 := List.map_congr_left fun j hj => HPj.out.r.c.unique hc3 hW1.1 HNW.out j (by simpa using hj)
                  rw [e]; exact hv3
                clear hv3 hc3
                go_wp2_with fail
                (go_at_call 50; refine (same_c P L M N W H _ lab2 D2 v3 _ (HPj.out.r.grew (hGl.trans (by repeat (first | exact Grew.refl _ | assumption | refine Grew.drew ?_ | refine Grew.alloc ?_ _ | refine Grew.setCell ?_ (by (try simp only [World.size_alloc, World.size_drew]); omega) _ | refine Grew.trans ?_ (by assumption))))) (HV3.out.grew (by repeat (first | exact Grew.refl _ | assumption | refine Grew.drew ?_ | refine Grew.alloc ?_ _ | refine Grew.setCell ?_ (by (try simp only [World.size_alloc, World.size_drew]); omega) _ | refine Grew.trans ?_ (by assumption)))) hW1 HNW.out hN1 hN0).mono ?_; rintro e wm ⟨rfl, hb⟩; obtain ⟨hc, hf⟩ := hb.facts; have hz := hb.size; (try simp only [World.size_alloc, World.size_drew] at hz))
                have hGm : Grew wr wm := hGl.trans (by repeat (first | exact Grew.refl _ | assumption | refine Grew.drew ?_ | refine Grew.alloc ?_ _ | refine Grew.setCell ?_ (by (try simp only [World.size_alloc, World.size_drew]); omega) _ | refine Grew.trans ?_ (by assumption)))
                go_wp2_with fail
                go_roundw
                case rel => exact ⟨k + 1, P, L, M, (fun t => blk t && !Ls.contains (t : Int)), lab2, D2, by omega, rfl, by go_num, HPj.out.grew hGm⟩
                case measure => simp [intOf]; omega
        by_cases k3 : kd = 3
        · subst k3
          have q0 := HO.out.1
          have q1 := HO.out.2
          go_wp2_with fail
          (go_at_call 48; refine (rclone_any P L M N W H _ lab D _ (HPA.out.r.grew (by repeat (first | exact Grew.refl _ | assumption | refine Grew.drew ?_ | refine Grew.alloc ?_ _ | refine Grew.setCell ?_ (by (try simp only [World.size_alloc, World.size_drew]); omega) _ | refine Grew.trans ?_ (by assumption)))) hN0 hN1).mono ?_; rintro e wB ⟨⟨P2, L2, M2, rfl, hR2, hP2, hL2, hM2⟩, hb⟩; obtain ⟨hc, hf⟩ := hb.facts; have hz := hb.size; (try simp only [World.size_alloc, World.size_drew] at hz))
          have hGB : Grew wA wB := (by repeat (first | exact Grew.refl _ | assumption | refine Grew.drew ?_ | refine Grew.alloc ?_ _ | refine Grew.setCell ?_ (by (try simp only [World.size_alloc, World.size_drew]); omega) _ | refine Grew.trans ?_ (by assumption)))
          have hzB := hGB.size
          have HPB : Hid (PlayR w1 wB P L M N W H B blk lab D) := HPA.out.grew hGB
          have HR2 : Hid (RgC wB P2 L2 M2 N W H (fun t => !blk t) lab D) := hR2
          have hlt2' : P2 < wB.heap.size ∧ L2 < wB.heap.size ∧ M2 < wB.heap.size := ⟨hR2.r.hP, hR2.r.hL, hR2.s.lt⟩
          have HIB : Hid (ListAt wB g 0 c (Ls ++ marks)) := HIA.out.grew hGB
          have HOB : Hid (wB.cell? ⟨wr.heap.size, 0, none⟩ = some (.int .i64 3) ∧ wB.cell? ⟨wr.heap.size, 1, none⟩ = some (.slice tv tn tc)) := ⟨(hGB.facts.1 _ _ hOA).trans HO.out.1, (hGB.facts.1 _ _ hOA).trans HO.out.2⟩
          have hAz := hGA.size
          clear q0 q1 hR2
          go_wp2_with fail
          go_at_call 32
          refine (block_c P L M N W H _ lab D g 0 c Ls tn _ (ad 1) (ad 7) ((HE.out _ ((hGwA.trans hGB).trans (by repeat (first | exact Grew.refl _ | assumption | refine Grew.drew ?_ | refine Grew.alloc ?_ _ | refine Grew.setCell ?_ (by (try simp only [World.size_alloc, World.size_drew]); omega) _ | refine Grew.trans ?_ (by assumption))))).cell 1 (by decide)) ((HE.out _ ((hGwA.trans hGB).trans (by repeat (first | exact Grew.refl _ | assumption | refine Grew.drew ?_ | refine Grew.alloc ?_ _ | refine Grew.setCell ?_ (by (try simp only [World.size_alloc, World.size_drew]); omega) _ | refine Grew.trans ?_ (by assumption))))).cell 7 (by decide)) (HPB.out.r.grew (by repeat (first | exact Grew.refl _ | assumption | refine Grew.drew ?_ | refine Grew.alloc ?_ _ | refine Grew.setCell ?_ (by (try simp only [World.size_alloc, World.size_drew]); omega) _ | refine Grew.trans ?_ (by assumption)))) hW1 HNW.out hN1 (HIB.out.head (n := 0) |>.grew (by repeat (first | exact Grew.refl _ | assumption | refine Grew.drew ?_ | refine Grew.alloc ?_ _ | refine Grew.setCell ?_ (by (try simp only [World.size_alloc, World.size_drew]); omega) _ | refine Grew.trans ?_ (by assumption)))) HLn.out (by omega) (by constructor <;> omega)).mono ?_
          intro e w8 h8
          have hT8 : ∃ v8, e = .returned v8 ∧ Turn2 L M wB w8 := by
            rcases h8 with ⟨rfl, _, hg8⟩ | ⟨rfl, _, _, hg8⟩ | ⟨_, _, rfl, _, _, _, hT8⟩
            · exact ⟨_, rfl, (Grew.turn ((show Grew wB _ from (by repeat (first | exact Grew.refl _ | assumption | refine Grew.drew ?_ | refine Grew.alloc ?_ _ | refine Grew.setCell ?_ (by (try simp only [World.size_alloc, World.size_drew]); omega) _ | refine Grew.trans ?_ (by assumption)))).trans hg8) L).two M⟩
            · exact ⟨_, rfl, (Grew.turn ((show Grew wB _ from (by repeat (first | exact Grew.refl _ | assumption | refine Grew.drew ?_ | refine Grew.alloc ?_ _ | refine Grew.setCell ?_ (by (try simp only [World.size_alloc, World.size_drew]); omega) _ | refine Grew.trans ?_ (by assumption)))).trans hg8) L).two M⟩
            · exact ⟨_, rfl, ((Grew.turn (show Grew wB _ from (by repeat (first | exact Grew.refl _ | assumption | refine Grew.drew ?_ | refine Grew.alloc ?_ _ | refine Grew.setCell ?_ (by (try simp only [World.size_alloc, World.size_drew]); omega) _ | refine Grew.trans ?_ (by assumption)))) L).two M).trans hT8⟩
          obtain ⟨v8, rfl, hTe⟩ := hT8
          have hOB : wr.heap.size < wB.heap.size := by omega
          have HO8 : Hid (w8.cell? ⟨wr.heap.size, 0, none⟩ = some (.int .i64 3) ∧ w8.cell? ⟨wr.heap.size, 1, none⟩ = some (.slice tv tn tc)) := ⟨(hTe.facts.1 _ _ hOB (by omega) (by omega)).trans HOB.out.1, (hTe.facts.1 _ _ hOB (by omega) (by omega)).trans HOB.out.2⟩
          have HI8 : Hid (ListAt w8 g 0 c (Ls ++ marks)) := HIB.out.turn2 hTe (by omega) (by omega)
          have HP8 : Hid (PlayR w1 w8 P2 L2 M2 N W H B blk lab D) := ⟨HR2.out.turn2 hTe (by constructor <;> omega) (by constructor <;> omega) (by constructor <;> omega), HPB.out.b.turn2 hTe hnes.2.1 hnes.2.2, by refine ⟨?_, ?_, ?_⟩ <;> omega, by refine ⟨?_, ?_, ?_⟩ <;> omega, hTe.grew HPB.out.g hqs.1 hqs.2.1⟩
          clear h8 hTe
          have f0 : w8.cell? ⟨w.heap.size, 0, none⟩ = some (.int .i64 W) := (HP8.out.g.facts.1 _ _ hzw).trans HGD.out
          have f1 := HO8.out.2
          have hGz : Grew w w8 := hGw1.trans HP8.out.g
          have hzz := HP8.out.g.size
          go_wp2_with fail
          (go_at_call 49; refine (kept_any g c tv tn tc Ls _ (HI8.out.grew (by repeat (first | exact Grew.refl _ | assumption | refine Grew.drew ?_ | refine Grew.alloc ?_ _ | refine Grew.setCell ?_ (by (try simp only [World.size_alloc, World.size_drew]); omega) _ | refine Grew.trans ?_ (by assumption)))) (HT.out _ (hGz.trans (by repeat (first | exact Grew.refl _ | assumption | refine Grew.drew ?_ | refine Grew.alloc ?_ _ | refine Grew.setCell ?_ (by (try simp only [World.size_alloc, World.size_drew]); omega) _ | refine Grew.trans ?_ (by assumption))))).1 (by omega)).mono ?_; rintro e wk ⟨rfl, hb⟩; obtain ⟨hc, hf⟩ := hb.facts; have hz := hb.size; (try simp only [World.size_alloc, World.size_drew] at hz); (try (have hcq := fun o => hc (w.heap.size) o (by (try simp only [World.size_alloc, World.size_drew]); omega))); (try (have hq : w.heap.size < wk.heap.size := by omega)))
          have hGk : Grew w8 wk := (by repeat (first | exact Grew.refl _ | assumption | refine Grew.drew ?_ | refine Grew.alloc ?_ _ | refine Grew.setCell ?_ (by (try simp only [World.size_alloc, World.size_drew]); omega) _ | refine Grew.trans ?_ (by assumption)))
          go_wp2_with fail
          (go_at_call 51; refine (rlabels_any W H N B blk _ (HP8.out.b.grew (hGk.trans (by repeat (first | exact Grew.refl _ | assumption | refine Grew.drew ?_ | refine Grew.alloc ?_ _ | refine Grew.setCell ?_ (by (try simp only [World.size_alloc, World.size_drew]); omega) _ | refine Grew.trans ?_ (by assumption))))) hW1 HNW.out hN1 hN0).mono ?_; rintro e wl ⟨⟨v3, lab3, rfl, hv3, hc3⟩, hb⟩; obtain ⟨hc, hf⟩ := hb.facts; have hz := hb.size; (try simp only [World.size_alloc, World.size_drew] at hz))
          have hGl : Grew w8 wl := hGk.trans (by repeat (first | exact Grew.refl _ | assumption | refine Grew.drew ?_ | refine Grew.alloc ?_ _ | refine Grew.setCell ?_ (by (try simp only [World.size_alloc, World.size_drew]); omega) _ | refine Grew.trans ?_ (by assumption)))
          have HV3 : Hid (IntsAt wl v3 ((List.range N).map lab)) := by
            have e : (List.range N).map lab = (List.range N).map lab3 := List.map_congr_left fun j hj => HP8.out.r.c.unique hc3 hW1.1 HNW.out j (by simpa using hj)
            rw [e]; exact hv3
          clear hv3 hc3
          go_wp2_with fail
          (go_at_call 50; refine (same_c P2 L2 M2 N W H _ lab D v3 _ (HP8.out.r.grew (hGl.trans (by repeat (first | exact Grew.refl _ | assumption | refine Grew.drew ?_ | refine Grew.alloc ?_ _ | refine Grew.setCell ?_ (by (try simp only [World.size_alloc, World.size_drew]); omega) _ | refine Grew.trans ?_ (by assumption))))) (HV3.out.grew (by repeat (first | exact Grew.refl _ | assumption | refine Grew.drew ?_ | refine Grew.alloc ?_ _ | refine Grew.setCell ?_ (by (try simp only [World.size_alloc, World.size_drew]); omega) _ | refine Grew.trans ?_ (by assumption)))) hW1 HNW.out hN1 hN0).mono ?_; rintro e wm ⟨rfl, hb⟩; obtain ⟨hc, hf⟩ := hb.facts; have hz := hb.size; (try simp only [World.size_alloc, World.size_drew] at hz))
          have hGm : Grew w8 wm := hGl.trans (by repeat (first | exact Grew.refl _ | assumption | refine Grew.drew ?_ | refine Grew.alloc ?_ _ | refine Grew.setCell ?_ (by (try simp only [World.size_alloc, World.size_drew]); omega) _ | refine Grew.trans ?_ (by assumption)))
          go_wp2_with fail
          go_roundw
          case rel => exact ⟨k + 1, P2, L2, M2, blk, lab, D, by omega, rfl, by go_num, HP8.out.grew hGm⟩
          case measure => simp [intOf]; omega
        · have c1 : (kd == 1) = false := by rw [beq_eq_false_iff_ne]; exact k1
          have c2 : (kd == 2) = false := by rw [beq_eq_false_iff_ne]; exact k2
          have c3 : (kd == 3) = false := by rw [beq_eq_false_iff_ne]; exact k3
          have q0 := HO.out.1
          have q1 := HO.out.2
          clear k1 k2 k3
          have f0 : wA.cell? ⟨w.heap.size, 0, none⟩ = some (.int .i64 W) := (HPA.out.g.facts.1 _ _ hzw).trans HGD.out
          have f1 := HO.out.2
          have hGz : Grew w wA := hGw1.trans HPA.out.g
          have hzz := HPA.out.g.size
          go_wp2_with fail
          (go_at_call 49; refine (kept_any g c tv tn tc Ls _ (HIA.out.grew (by repeat (first | exact Grew.refl _ | assumption | refine Grew.drew ?_ | refine Grew.alloc ?_ _ | refine Grew.setCell ?_ (by (try simp only [World.size_alloc, World.size_drew]); omega) _ | refine Grew.trans ?_ (by assumption)))) (HT.out _ (hGz.trans (by repeat (first | exact Grew.refl _ | assumption | refine Grew.drew ?_ | refine Grew.alloc ?_ _ | refine Grew.setCell ?_ (by (try simp only [World.size_alloc, World.size_drew]); omega) _ | refine Grew.trans ?_ (by assumption))))).1 (by omega)).mono ?_; rintro e wk ⟨rfl, hb⟩; obtain ⟨hc, hf⟩ := hb.facts; have hz := hb.size; (try simp only [World.size_alloc, World.size_drew] at hz); (try (have hcq := fun o => hc (w.heap.size) o (by (try simp only [World.size_alloc, World.size_drew]); omega))); (try (have hq : w.heap.size < wk.heap.size := by omega)))
          have hGk : Grew wA wk := (by repeat (first | exact Grew.refl _ | assumption | refine Grew.drew ?_ | refine Grew.alloc ?_ _ | refine Grew.setCell ?_ (by (try simp only [World.size_alloc, World.size_drew]); omega) _ | refine Grew.trans ?_ (by assumption)))
          go_wp2_with fail
          (go_at_call 51; refine (rlabels_any W H N B blk _ (HPA.out.b.grew (hGk.trans (by repeat (first | exact Grew.refl _ | assumption | refine Grew.drew ?_ | refine Grew.alloc ?_ _ | refine Grew.setCell ?_ (by (try simp only [World.size_alloc, World.size_drew]); omega) _ | refine Grew.trans ?_ (by assumption))))) hW1 HNW.out hN1 hN0).mono ?_; rintro e wl ⟨⟨v3, lab3, rfl, hv3, hc3⟩, hb⟩; obtain ⟨hc, hf⟩ := hb.facts; have hz := hb.size; (try simp only [World.size_alloc, World.size_drew] at hz))
          have hGl : Grew wA wl := hGk.trans (by repeat (first | exact Grew.refl _ | assumption | refine Grew.drew ?_ | refine Grew.alloc ?_ _ | refine Grew.setCell ?_ (by (try simp only [World.size_alloc, World.size_drew]); omega) _ | refine Grew.trans ?_ (by assumption)))
          have HV3 : Hid (IntsAt wl v3 ((List.range N).map lab)) := by
            have e : (List.range N).map lab = (List.range N).map lab3 := List.map_congr_left fun j hj => HPA.out.r.c.unique hc3 hW1.1 HNW.out j (by simpa using hj)
            rw [e]; exact hv3
          clear hv3 hc3
          go_wp2_with fail
          (go_at_call 50; refine (same_c P L M N W H _ lab D v3 _ (HPA.out.r.grew (hGl.trans (by repeat (first | exact Grew.refl _ | assumption | refine Grew.drew ?_ | refine Grew.alloc ?_ _ | refine Grew.setCell ?_ (by (try simp only [World.size_alloc, World.size_drew]); omega) _ | refine Grew.trans ?_ (by assumption))))) (HV3.out.grew (by repeat (first | exact Grew.refl _ | assumption | refine Grew.drew ?_ | refine Grew.alloc ?_ _ | refine Grew.setCell ?_ (by (try simp only [World.size_alloc, World.size_drew]); omega) _ | refine Grew.trans ?_ (by assumption)))) hW1 HNW.out hN1 hN0).mono ?_; rintro e wm ⟨rfl, hb⟩; obtain ⟨hc, hf⟩ := hb.facts; have hz := hb.size; (try simp only [World.size_alloc, World.size_drew] at hz))
          have hGm : Grew wA wm := hGl.trans (by repeat (first | exact Grew.refl _ | assumption | refine Grew.drew ?_ | refine Grew.alloc ?_ _ | refine Grew.setCell ?_ (by (try simp only [World.size_alloc, World.size_drew]); omega) _ | refine Grew.trans ?_ (by assumption)))
          go_wp2_with fail
          go_roundw
          case rel => exact ⟨k + 1, P, L, M, blk, lab, D, by omega, rfl, by go_num, HPA.out.grew hGm⟩
          case measure => simp [intOf]; omega
    · obtain rfl : k = n := by omega
      have HPe : Hid (PlayR w1 wr P L M N W H B blk lab D) := HPl.out
      by_cases hx0 : 0 ≤ x
      · by_cases hx1 : x < N
        · obtain ⟨t, rfl⟩ : ∃ t : Nat, x = t := ⟨x.toNat, by omega⟩
          have htN : t < N := by omega
          go_wp2_with fail
          (go_at_call 52; refine (label_in P L M N W H t lab _ (HPe.out.r.r.grew (by repeat (first | exact Grew.refl _ | assumption | refine Grew.drew ?_ | refine Grew.alloc ?_ _ | refine Grew.setCell ?_ (by (try simp only [World.size_alloc, World.size_drew]); omega) _ | refine Grew.trans ?_ (by assumption)))) htN).mono ?_; rintro e w5 ⟨rfl, hb⟩; obtain ⟨hc, hf⟩ := hb.facts; have hz := hb.size; (try simp only [World.size_alloc, World.size_drew] at hz))
          go_wp2_with fail
          go_ret
          exact ⟨rfl, (by repeat (first | exact Grew.refl _ | assumption | refine Grew.drew ?_ | refine Grew.alloc ?_ _ | refine Grew.setCell ?_ (by (try simp only [World.size_alloc, World.size_drew]); omega) _ | refine Grew.trans ?_ (by assumption)))⟩
        · have d0 : decide (0 ≤ x) = true := by simpa using hx0
          have d1 : decide (x < (N : Int)) = false := by simpa using hx1
          have HX : Hid (x < 0 ∨ (N : Int) ≤ x) := .inr (by omega)
          clear hx0 hx1
          go_wp2_with fail
          (go_at_call 52; refine (label_out P L M N W H x lab _ (ad 1) ((HE.out _ (hGwr.trans (by repeat (first | exact Grew.refl _ | assumption | refine Grew.drew ?_ | refine Grew.alloc ?_ _ | refine Grew.setCell ?_ (by (try simp only [World.size_alloc, World.size_drew]); omega) _ | refine Grew.trans ?_ (by assumption))))).cell 1 (by decide)) (HPe.out.r.r.grew (by repeat (first | exact Grew.refl _ | assumption | refine Grew.drew ?_ | refine Grew.alloc ?_ _ | refine Grew.setCell ?_ (by (try simp only [World.size_alloc, World.size_drew]); omega) _ | refine Grew.trans ?_ (by assumption)))) HX.out hN1).mono ?_; rintro e w5 ⟨rfl, hb⟩; obtain ⟨hc, hf⟩ := hb.facts; have hz := hb.size; (try simp only [World.size_alloc, World.size_drew] at hz))
          have hG5 : Grew wr w5 := (by repeat (first | exact Grew.refl _ | assumption | refine Grew.drew ?_ | refine Grew.alloc ?_ _ | refine Grew.setCell ?_ (by (try simp only [World.size_alloc, World.size_drew]); omega) _ | refine Grew.trans ?_ (by assumption)))
          go_wp2_with fail
          (go_at_call 27; refine (num_Range _ ad (HE.out _ ((hGwr.trans hG5).trans (by repeat (first | exact Grew.refl _ | assumption | refine Grew.drew ?_ | refine Grew.alloc ?_ _ | refine Grew.setCell ?_ (by (try simp only [World.size_alloc, World.size_drew]); omega) _ | refine Grew.trans ?_ (by assumption)))))).mono ?_; rintro e w6 ⟨rfl, hb⟩; obtain ⟨hc, hf⟩ := hb.facts; have hz := hb.size; (try simp only [World.size_alloc, World.size_drew] at hz))
          have hG6 : Grew wr w6 := hG5.trans (by repeat (first | exact Grew.refl _ | assumption | refine Grew.drew ?_ | refine Grew.alloc ?_ _ | refine Grew.setCell ?_ (by (try simp only [World.size_alloc, World.size_drew]); omega) _ | refine Grew.trans ?_ (by assumption)))
          go_wp2_with fail
          (go_at_call 44; refine (size_out P L M N W H x lab _ (ad 1) ((HE.out _ ((hGwr.trans hG6).trans (by repeat (first | exact Grew.refl _ | assumption | refine Grew.drew ?_ | refine Grew.alloc ?_ _ | refine Grew.setCell ?_ (by (try simp only [World.size_alloc, World.size_drew]); omega) _ | refine Grew.trans ?_ (by assumption))))).cell 1 (by decide)) (HPe.out.r.r.grew (hG6.trans (by repeat (first | exact Grew.refl _ | assumption | refine Grew.drew ?_ | refine Grew.alloc ?_ _ | refine Grew.setCell ?_ (by (try simp only [World.size_alloc, World.size_drew]); omega) _ | refine Grew.trans ?_ (by assumption))))) HX.out hN1).mono ?_; rintro e w7 ⟨rfl, hb⟩; obtain ⟨hc, hf⟩ := hb.facts; have hz := hb.size; (try simp only [World.size_alloc, World.size_drew] at hz))
          have hG7 : Grew wr w7 := hG6.trans (by repeat (first | exact Grew.refl _ | assumption | refine Grew.drew ?_ | refine Grew.alloc ?_ _ | refine Grew.setCell ?_ (by (try simp only [World.size_alloc, World.size_drew]); omega) _ | refine Grew.trans ?_ (by assumption)))
          go_wp2_with fail
          (go_at_call 43; refine (together_out P L M N W H x x lab _ (ad 1) ((HE.out _ ((hGwr.trans hG7).trans (by repeat (first | exact Grew.refl _ | assumption | refine Grew.drew ?_ | refine Grew.alloc ?_ _ | refine Grew.setCell ?_ (by (try simp only [World.size_alloc, World.size_drew]); omega) _ | refine Grew.trans ?_ (by assumption))))).cell 1 (by decide)) (HPe.out.r.r.grew (hG7.trans (by repeat (first | exact Grew.refl _ | assumption | refine Grew.drew ?_ | refine Grew.alloc ?_ _ | refine Grew.setCell ?_ (by (try simp only [World.size_alloc, World.size_drew]); omega) _ | refine Grew.trans ?_ (by assumption))))) HX.out HX.out hN1).mono ?_; rintro e w8 ⟨rfl, hb⟩; obtain ⟨hc, hf⟩ := hb.facts; have hz := hb.size; (try simp only [World.size_alloc, World.size_drew] at hz))
          have hG8 : Grew wr w8 := hG7.trans (by repeat (first | exact Grew.refl _ | assumption | refine Grew.drew ?_ | refine Grew.alloc ?_ _ | refine Grew.setCell ?_ (by (try simp only [World.size_alloc, World.size_drew]); omega) _ | refine Grew.trans ?_ (by assumption)))
          go_wp2_with fail
          go_ret
          exact ⟨rfl, hGwr.trans hG8⟩
      · have d0 : decide (0 ≤ x) = false := by simpa using hx0
        have HX : Hid (x < 0 ∨ (N : Int) ≤ x) := .inl (by omega)
        clear hx0
        go_wp2_with fail
        (go_at_call 52; refine (label_out P L M N W H x lab _ (ad 1) ((HE.out _ (hGwr.trans (by repeat (first | exact Grew.refl _ | assumption | refine Grew.drew ?_ | refine Grew.alloc ?_ _ | refine Grew.setCell ?_ (by (try simp only [World.size_alloc, World.size_drew]); omega) _ | refine Grew.trans ?_ (by assumption))))).cell 1 (by decide)) (HPe.out.r.r.grew (by repeat (first | exact Grew.refl _ | assumption | refine Grew.drew ?_ | refine Grew.alloc ?_ _ | refine Grew.setCell ?_ (by (try simp only [World.size_alloc, World.size_drew]); omega) _ | refine Grew.trans ?_ (by assumption)))) HX.out hN1).mono ?_; rintro e w5 ⟨rfl, hb⟩; obtain ⟨hc, hf⟩ := hb.facts; have hz := hb.size; (try simp only [World.size_alloc, World.size_drew] at hz))
        have hG5 : Grew wr w5 := (by repeat (first | exact Grew.refl _ | assumption | refine Grew.drew ?_ | refine Grew.alloc ?_ _ | refine Grew.setCell ?_ (by (try simp only [World.size_alloc, World.size_drew]); omega) _ | refine Grew.trans ?_ (by assumption)))
        go_wp2_with fail
        (go_at_call 27; refine (num_Range _ ad (HE.out _ ((hGwr.trans hG5).trans (by repeat (first | exact Grew.refl _ | assumption | refine Grew.drew ?_ | refine Grew.alloc ?_ _ | refine Grew.setCell ?_ (by (try simp only [World.size_alloc, World.size_drew]); omega) _ | refine Grew.trans ?_ (by assumption)))))).mono ?_; rintro e w6 ⟨rfl, hb⟩; obtain ⟨hc, hf⟩ := hb.facts; have hz := hb.size; (try simp only [World.size_alloc, World.size_drew] at hz))
        have hG6 : Grew wr w6 := hG5.trans (by repeat (first | exact Grew.refl _ | assumption | refine Grew.drew ?_ | refine Grew.alloc ?_ _ | refine Grew.setCell ?_ (by (try simp only [World.size_alloc, World.size_drew]); omega) _ | refine Grew.trans ?_ (by assumption)))
        go_wp2_with fail
        (go_at_call 44; refine (size_out P L M N W H x lab _ (ad 1) ((HE.out _ ((hGwr.trans hG6).trans (by repeat (first | exact Grew.refl _ | assumption | refine Grew.drew ?_ | refine Grew.alloc ?_ _ | refine Grew.setCell ?_ (by (try simp only [World.size_alloc, World.size_drew]); omega) _ | refine Grew.trans ?_ (by assumption))))).cell 1 (by decide)) (HPe.out.r.r.grew (hG6.trans (by repeat (first | exact Grew.refl _ | assumption | refine Grew.drew ?_ | refine Grew.alloc ?_ _ | refine Grew.setCell ?_ (by (try simp only [World.size_alloc, World.size_drew]); omega) _ | refine Grew.trans ?_ (by assumption))))) HX.out hN1).mono ?_; rintro e w7 ⟨rfl, hb⟩; obtain ⟨hc, hf⟩ := hb.facts; have hz := hb.size; (try simp only [World.size_alloc, World.size_drew] at hz))
        have hG7 : Grew wr w7 := hG6.trans (by repeat (first | exact Grew.refl _ | assumption | refine Grew.drew ?_ | refine Grew.alloc ?_ _ | refine Grew.setCell ?_ (by (try simp only [World.size_alloc, World.size_drew]); omega) _ | refine Grew.trans ?_ (by assumption)))
        go_wp2_with fail
        (go_at_call 43; refine (together_out P L M N W H x x lab _ (ad 1) ((HE.out _ ((hGwr.trans hG7).trans (by repeat (first | exact Grew.refl _ | assumption | refine Grew.drew ?_ | refine Grew.alloc ?_ _ | refine Grew.setCell ?_ (by (try simp only [World.size_alloc, World.size_drew]); omega) _ | refine Grew.trans ?_ (by assumption))))).cell 1 (by decide)) (HPe.out.r.r.grew (hG7.trans (by repeat (first | exact Grew.refl _ | assumption | refine Grew.drew ?_ | refine Grew.alloc ?_ _ | refine Grew.setCell ?_ (by (try simp only [World.size_alloc, World.size_drew]); omega) _ | refine Grew.trans ?_ (by assumption))))) HX.out HX.out hN1).mono ?_; rintro e w8 ⟨rfl, hb⟩; obtain ⟨hc, hf⟩ := hb.facts; have hz := hb.size; (try simp only [World.size_alloc, World.size_drew] at hz))
        have hG8 : Grew wr w8 := hG7.trans (by repeat (first | exact Grew.refl _ | assumption | refine Grew.drew ?_ | refine Grew.alloc ?_ _ | refine Grew.setCell ?_ (by (try simp only [World.size_alloc, World.size_drew]); omega) _ | refine Grew.trans ?_ (by assumption)))
        go_wp2_with fail
        go_ret
        exact ⟨rfl, hGwr.trans hG8⟩
end Go.Proofs.YtbgbfljbjpbinaaDoor

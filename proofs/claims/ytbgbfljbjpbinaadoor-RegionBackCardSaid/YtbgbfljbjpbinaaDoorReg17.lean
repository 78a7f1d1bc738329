/- Block and Free in terms of which tiles are free; the walks of Together, Size, Count and Label. Conditions: the region's cells, the sentinels' cells. -/
import Derived.Test.YtbgbfljbjpbinaaDoorReg16
import Derived.Test.YtbgbfljbjpbinaaDoorReg14
namespace Go.Proofs.YtbgbfljbjpbinaaDoor
set_option linter.unusedSimpArgs false
set_option linter.unusedVariables false
open Go.RowKit Go.Maps

theorem SizesAt.reset {w : World} {M n N : Nat} {D : DataW Unit} (h : SizesAt w M n D) (hN : Maps.size D ≤ N) : SizesAt w M N D := by
  obtain ⟨es, clock, hb, F, hs, rfl⟩ := h.raw
  exact ⟨es, clock, hb, F, by simpa [Maps.size, length_sorted] using hN, rfl⟩
theorem many_le (N : Nat) (lab : Nat → Int) : many N lab ≤ N := passed_le _ N
/-- A region in memory: each free tile bears its least tile, the map holds the sizes. -/
structure RgC (w : World) (P L M N W H : Nat) (fr : Nat → Bool) (lab : Nat → Int) (D : DataW Unit) : Prop where
  r : RegAt w P L M N W H lab
  s : SizesAt w M N D
  c : Canon W N fr lab
  z : SzOk N lab D
theorem RgC.grew {w w' : World} {P L M N W H : Nat} {fr : Nat → Bool} {lab : Nat → Int} {D : DataW Unit} (h : RgC w P L M N W H fr lab D) (g : Grew w w') : RgC w' P L M N W H fr lab D := ⟨h.r.grew g, h.s.grew g, h.c, h.z⟩
theorem RgC.congr {w : World} {P L M N W H : Nat} {fr fr' : Nat → Bool} {lab : Nat → Int} {D : DataW Unit} (h : RgC w P L M N W H fr lab D) (e : ∀ j, fr j = fr' j) : RgC w P L M N W H fr' lab D := ⟨h.r, h.s, h.c.congr e, h.z⟩
/-- All tiles of a list are free, or all blocked; none twice. -/
def AskFr (fr : Nat → Bool) (b : Bool) (L : List Int) : Prop := ∀ (i : Nat) (x : Int), L[i]? = some x → fr x.toNat = b ∧ x ∉ L.take i
theorem Canon.ask {W N : Nat} {fr : Nat → Bool} {lab : Nat → Int} {L : List Int} {b : Bool} (h : Canon W N fr lab) (hr : RngOk N L) : AskOk lab b L ↔ AskFr fr (!b) L := by
  have key : ∀ (i : Nat) (x : Int), L[i]? = some x → (decide (lab x.toNat = -1) = b ↔ fr x.toNat = !b) := fun i x hx => by
    have := hr i x hx
    have hx' : x.toNat < N := by omega
    cases hf : fr x.toNat
    · rw [h.nf _ hx' hf]; cases b <;> simp
    · have := h.ne _ hx' hf
      cases b <;> simp [this]
  constructor
  · intro ha i x hx
    exact ⟨(key i x hx).1 (ha i x hx).1, (ha i x hx).2⟩
  · intro ha i x hx
    exact ⟨(key i x hx).2 (ha i x hx).1, (ha i x hx).2⟩
theorem Cuts.canon {W H N i : Nat} {Ls : List Int} {fr : Nat → Bool} {lab lab2 : Nat → Int} {D D2 : DataW Unit} (h : Cuts W N Ls lab D i lab2 D2) (hW : 1 ≤ W) (hN : N = W * H) (hC : Canon W N fr lab) (hS : SzOk N lab D) (hA : AskFr fr true Ls) :
    Canon W N (fun x => fr x && !(Ls.take i).contains (x : Int)) lab2 ∧ SzOk N lab2 D2 := by
  induction h with
  | start => exact ⟨hC.congr fun j => by simp, hS⟩
  | @step i t lab lab2 D D2 _ hx ht hs ih =>
    obtain ⟨h1, h2⟩ := hA i _ hx
    have hcn := hs.canon hW hN ht ih.1 ih.2 (by rw [Int.toNat_natCast] at h1; simp [h1, h2])
    refine ⟨hcn.1.congr fun j => ?_, hcn.2⟩
    rw [List.take_add_one, hx]
    by_cases e : j = t
    · subst e; simp
    · have : ¬ (j : Int) = (t : Int) := by omega
      simp [e, this]
theorem Joins.canon {W H N i : Nat} {Ls : List Int} {fr : Nat → Bool} {lab lab2 : Nat → Int} {D D2 : DataW Unit} (h : Joins W N Ls lab D i lab2 D2) (hW : 1 ≤ W) (hN : N = W * H) (hN1 : N ≤ 1024) (hC : Canon W N fr lab) (hS : SzOk N lab D) (hA : AskFr fr false Ls) :
    Canon W N (fun x => fr x || (Ls.take i).contains (x : Int)) lab2 ∧ SzOk N lab2 D2 := by
  induction h with
  | start => exact ⟨hC.congr fun j => by simp, hS⟩
  | @step i t lab lab2 D D2 _ hx ht hs ih =>
    obtain ⟨h1, h2⟩ := hA i _ hx
    have hcn := hs.canon hW hN hN1 ht ih.1 ih.2 (by rw [Int.toNat_natCast] at h1; simp [h1, h2])
    refine ⟨hcn.1.congr fun j => ?_, hcn.2⟩
    rw [List.take_add_one, hx]
    by_cases e : j = t
    · subst e; simp
    · have : ¬ (j : Int) = (t : Int) := by omega
      simp [e, this]

theorem block_c (P L M N W H : Nat) (fr : Nat → Bool) (lab : Nat → Int) (D : DataW Unit) (bb off cap : Nat) (Ls : List Int) (n : Nat) (w : World) (a b : Addr) (hg : w.cell? ⟨1, 0, none⟩ = some (.iface 130 (.pointer (some a)))) (hbl : w.cell? ⟨7, 0, none⟩ = some (.iface 130 (.pointer (some b)))) (hR : RgC w P L M N W H fr lab D) (hW : 1 ≤ W ∧ W ≤ 32) (hNW : N = W * H) (hN : N ≤ 1024) (hL : ListAt w bb off cap Ls) (hn : n = Ls.length) (hn1 : n ≤ 900) (hbb : bb ≠ L ∧ bb ≠ M) :
    Calls Tryd.prog 32 #[.pointer (some ⟨P, 0, none⟩), .slice (some ⟨bb, off, none⟩) n cap] w fun e w' =>
      (e = .returned (.iface 130 (.pointer (some a))) ∧ ¬ RngOk N Ls ∧ Grew w w') ∨
      (e = .returned (.iface 130 (.pointer (some b))) ∧ RngOk N Ls ∧ ¬ AskFr fr true Ls ∧ Grew w w') ∨
      (∃ lab2 D2, e = .returned .nilIface ∧ RngOk N Ls ∧ AskFr fr true Ls ∧ RgC w' P L M N W H (fun x => fr x && !Ls.contains (x : Int)) lab2 D2 ∧ Turn2 L M w w') := by
  have hmul : N * n ≤ 1024 * 900 := Nat.mul_le_mul hN hn1
  refine (block_any P L M N W H N lab D bb off cap Ls n w a b hg hbl hR.r hR.s hW hNW hN hR.c.ok hL hn (by omega) (by omega) hbb).mono ?_
  rintro e w' (⟨rfl, h, hgr⟩ | ⟨rfl, h1, h2, hgr⟩ | ⟨lab2, D2, rfl, h1, h2, hC, hR2, hS2, hT⟩)
  · exact .inl ⟨rfl, h, hgr⟩
  · exact .inr (.inl ⟨rfl, h1, fun h => h2 ((hR.c.ask h1).2 h), hgr⟩)
  · have h3 := (hR.c.ask h1).1 h2
    obtain ⟨hc, hz⟩ := hC.canon hW.1 hNW hR.c hR.z h3
    refine .inr (.inr ⟨lab2, D2, rfl, h1, h3, ⟨hR2, hS2.reset (by rw [hz.sz]; exact many_le _ _), hc.congr fun j => by rw [hn, List.take_length], hz⟩, hT⟩)
theorem free_c (P L M N W H : Nat) (fr : Nat → Bool) (lab : Nat → Int) (D : DataW Unit) (bb off cap : Nat) (Ls : List Int) (n : Nat) (w : World) (a b : Addr) (hg : w.cell? ⟨1, 0, none⟩ = some (.iface 130 (.pointer (some a)))) (hbl : w.cell? ⟨6, 0, none⟩ = some (.iface 130 (.pointer (some b)))) (hR : RgC w P L M N W H fr lab D) (hW : 1 ≤ W ∧ W ≤ 32) (hNW : N = W * H) (hN : N ≤ 1024) (hL : ListAt w bb off cap Ls) (hn : n = Ls.length) (hn1 : n ≤ 900) (hbb : bb ≠ L ∧ bb ≠ M) :
    Calls Tryd.prog 35 #[.pointer (some ⟨P, 0, none⟩), .slice (some ⟨bb, off, none⟩) n cap] w fun e w' =>
      (e = .returned (.iface 130 (.pointer (some a))) ∧ ¬ RngOk N Ls ∧ Grew w w') ∨
      (e = .returned (.iface 130 (.pointer (some b))) ∧ RngOk N Ls ∧ ¬ AskFr fr false Ls ∧ Grew w w') ∨
      (∃ lab2 D2, e = .returned .nilIface ∧ RngOk N Ls ∧ AskFr fr false Ls ∧ RgC w' P L M N W H (fun x => fr x || Ls.contains (x : Int)) lab2 D2 ∧ Turn2 L M w w') := by
  refine (free_told P L M N W H N lab D bb off cap Ls n w a b hg hbl hR.r hR.s hW hNW hN hR.c.ok hL hn (by omega) (by omega) hbb).mono ?_
  rintro e w' (⟨rfl, h, hgr⟩ | ⟨rfl, h1, h2, hgr⟩ | ⟨lab2, D2, rfl, h1, h2, hC, hR2, hS2, hT⟩)
  · exact .inl ⟨rfl, h, hgr⟩
  · exact .inr (.inl ⟨rfl, h1, fun h => h2 ((hR.c.ask h1).2 h), hgr⟩)
  · have h3 := (hR.c.ask h1).1 h2
    obtain ⟨hc, hz⟩ := hC.canon hW.1 hNW hN hR.c hR.z h3
    refine .inr (.inr ⟨lab2, D2, rfl, h1, h3, ⟨hR2, hS2.reset (by rw [hz.sz]; exact many_le _ _), hc.congr fun j => by rw [hn, List.take_length], hz⟩, hT⟩)

set_option maxRecDepth 100000 in
set_option maxHeartbeats 4000000 in
theorem label_out (P L M N W H : Nat) (t : Int) (lab : Nat → Int) (w : World) (a : Addr) (hg : w.cell? ⟨1, 0, none⟩ = some (.iface 130 (.pointer (some a)))) (hR : RegAt w P L M N W H lab) (ht : t < 0 ∨ (N : Int) ≤ t) (hN : N ≤ 1024) :
    Calls Tryd.prog 52 #[.pointer (some ⟨P, 0, none⟩), .int .i64 t] w fun e w' => e = .returned (.tuple #[.int .i64 0, .iface 130 (.pointer (some a))]) ∧ Grew w w' := by
  obtain ⟨K, c2⟩ := hR.r2
  clear hR
  rcases ht with h | h
  · have d0 : decide (t < 0) = true := by simpa using h
    go_enter Tryd.func52, Tryd.ntmps52
    go_wp2_with fail
    go_region
    go_wp2
    exact bodyPost_ret (v := .tuple #[.int .i64 0, .iface 130 (.pointer (some a))]) (by simp [results, Tryd.results52, go_sem, *]) rfl ⟨rfl, (by repeat (first | exact Grew.refl _ | assumption | refine Grew.drew ?_ | refine Grew.alloc ?_ _ | refine Grew.setCell ?_ (by (try simp only [World.size_alloc, World.size_drew]); omega) _ | refine Grew.trans ?_ (by assumption)))⟩
  · have d0 : decide (t < 0) = false := by simp; omega
    have d1 : decide ((N : Int) ≤ t) = true := by simpa using h
    go_enter Tryd.func52, Tryd.ntmps52
    go_wp2_with fail
    go_region
    go_wp2
    exact bodyPost_ret (v := .tuple #[.int .i64 0, .iface 130 (.pointer (some a))]) (by simp [results, Tryd.results52, go_sem, *]) rfl ⟨rfl, (by repeat (first | exact Grew.refl _ | assumption | refine Grew.drew ?_ | refine Grew.alloc ?_ _ | refine Grew.setCell ?_ (by (try simp only [World.size_alloc, World.size_drew]); omega) _ | refine Grew.trans ?_ (by assumption)))⟩

set_option maxRecDepth 100000 in
set_option maxHeartbeats 4000000 in
theorem together_in (P L M N W H t u : Nat) (lab : Nat → Int) (w : World) (hR : RegAt w P L M N W H lab) (ht : t < N) (hu : u < N) :
    Calls Tryd.prog 43 #[.pointer (some ⟨P, 0, none⟩), .int .i64 t, .int .i64 u] w fun e w' => e = .returned (.bool (decide (lab t = lab u ∧ lab t ≠ -1))) ∧ Grew w w' := by
  have HR : Hid (RegAt w P L M N W H lab) := hR
  clear hR
  obtain ⟨x, hx⟩ : ∃ x, lab t = x := ⟨_, rfl⟩
  obtain ⟨y, hy⟩ : ∃ y, lab u = y := ⟨_, rfl⟩
  have HX : Hid (lab t = x) := hx
  have HY : Hid (lab u = y) := hy
  rw [hx, hy]
  clear hx hy
  go_enter Tryd.func43, Tryd.ntmps43
  go_wp2_with fail
  (go_at_call 52; refine (label_in P L M N W H t lab _ (HR.out.grew (by repeat (first | exact Grew.refl _ | assumption | refine Grew.drew ?_ | refine Grew.alloc ?_ _ | refine Grew.setCell ?_ (by (try simp only [World.size_alloc, World.size_drew]); omega) _ | refine Grew.trans ?_ (by assumption)))) ht).mono ?_; rintro e w1 ⟨rfl, hb⟩; obtain ⟨hc, hf⟩ := hb.facts; have hz := hb.size; (try simp only [World.size_alloc, World.size_drew] at hz))
  have hG1 : Grew w w1 := (by repeat (first | exact Grew.refl _ | assumption | refine Grew.drew ?_ | refine Grew.alloc ?_ _ | refine Grew.setCell ?_ (by (try simp only [World.size_alloc, World.size_drew]); omega) _ | refine Grew.trans ?_ (by assumption)))
  rw [HX.out]
  go_wp2_with fail
  (go_at_call 52; refine (label_in P L M N W H u lab _ (HR.out.grew (hG1.trans (by repeat (first | exact Grew.refl _ | assumption | refine Grew.drew ?_ | refine Grew.alloc ?_ _ | refine Grew.setCell ?_ (by (try simp only [World.size_alloc, World.size_drew]); omega) _ | refine Grew.trans ?_ (by assumption))))) hu).mono ?_; rintro e w2 ⟨rfl, hb⟩; obtain ⟨hc, hf⟩ := hb.facts; have hz := hb.size; (try simp only [World.size_alloc, World.size_drew] at hz))
  have hG2 : Grew w w2 := hG1.trans (by repeat (first | exact Grew.refl _ | assumption | refine Grew.drew ?_ | refine Grew.alloc ?_ _ | refine Grew.setCell ?_ (by (try simp only [World.size_alloc, World.size_drew]); omega) _ | refine Grew.trans ?_ (by assumption)))
  rw [HY.out]
  by_cases e1 : x = y
  · subst e1
    by_cases e2 : x = -1
    · subst e2
      go_wp2_with fail
      go_ret
      exact ⟨by simp, hG2⟩
    · have e3 : (x != -1) = true := by simpa using e2
      go_wp2_with fail
      go_ret
      exact ⟨by simp [e2, e3], hG2⟩
  · have e3 : (x == y) = false := by rw [beq_eq_false_iff_ne]; exact e1
    go_wp2_with fail
    go_ret
    exact ⟨by simp [e1, e3], hG2⟩
set_option maxRecDepth 100000 in
set_option maxHeartbeats 4000000 in
theorem together_out (P L M N W H : Nat) (t u : Int) (lab : Nat → Int) (w : World) (a : Addr) (hg : w.cell? ⟨1, 0, none⟩ = some (.iface 130 (.pointer (some a)))) (hR : RegAt w P L M N W H lab) (ht : t < 0 ∨ (N : Int) ≤ t) (hu : u < 0 ∨ (N : Int) ≤ u) (hN : N ≤ 1024) :
    Calls Tryd.prog 43 #[.pointer (some ⟨P, 0, none⟩), .int .i64 t, .int .i64 u] w fun e w' => e = .returned (.bool false) ∧ Grew w w' := by
  have HR : Hid (RegAt w P L M N W H lab) := hR
  have HG : Hid (∀ wr, Grew w wr → wr.cell? ⟨1, 0, none⟩ = some (.iface 130 (.pointer (some a)))) := fun wr g => (g.facts.1 _ _ (lt_of_cell hg)).trans hg
  clear hR hg
  go_enter Tryd.func43, Tryd.ntmps43
  go_wp2_with fail
  (go_at_call 52; refine (label_out P L M N W H t lab _ a (HG.out _ (by repeat (first | exact Grew.refl _ | assumption | refine Grew.drew ?_ | refine Grew.alloc ?_ _ | refine Grew.setCell ?_ (by (try simp only [World.size_alloc, World.size_drew]); omega) _ | refine Grew.trans ?_ (by assumption)))) (HR.out.grew (by repeat (first | exact Grew.refl _ | assumption | refine Grew.drew ?_ | refine Grew.alloc ?_ _ | refine Grew.setCell ?_ (by (try simp only [World.size_alloc, World.size_drew]); omega) _ | refine Grew.trans ?_ (by assumption)))) ht hN).mono ?_; rintro e w1 ⟨rfl, hb⟩; obtain ⟨hc, hf⟩ := hb.facts; have hz := hb.size; (try simp only [World.size_alloc, World.size_drew] at hz))
  have hG1 : Grew w w1 := (by repeat (first | exact Grew.refl _ | assumption | refine Grew.drew ?_ | refine Grew.alloc ?_ _ | refine Grew.setCell ?_ (by (try simp only [World.size_alloc, World.size_drew]); omega) _ | refine Grew.trans ?_ (by assumption)))
  go_wp2_with fail
  (go_at_call 52; refine (label_out P L M N W H u lab _ a (HG.out _ (hG1.trans (by repeat (first | exact Grew.refl _ | assumption | refine Grew.drew ?_ | refine Grew.alloc ?_ _ | refine Grew.setCell ?_ (by (try simp only [World.size_alloc, World.size_drew]); omega) _ | refine Grew.trans ?_ (by assumption))))) (HR.out.grew (hG1.trans (by repeat (first | exact Grew.refl _ | assumption | refine Grew.drew ?_ | refine Grew.alloc ?_ _ | refine Grew.setCell ?_ (by (try simp only [World.size_alloc, World.size_drew]); omega) _ | refine Grew.trans ?_ (by assumption))))) hu hN).mono ?_; rintro e w2 ⟨rfl, hb⟩; obtain ⟨hc, hf⟩ := hb.facts; have hz := hb.size; (try simp only [World.size_alloc, World.size_drew] at hz))
  have hG2 : Grew w w2 := hG1.trans (by repeat (first | exact Grew.refl _ | assumption | refine Grew.drew ?_ | refine Grew.alloc ?_ _ | refine Grew.setCell ?_ (by (try simp only [World.size_alloc, World.size_drew]); omega) _ | refine Grew.trans ?_ (by assumption)))
  go_wp2_with fail
  go_ret
  exact ⟨rfl, hG2⟩

set_option maxRecDepth 100000 in
set_option maxHeartbeats 4000000 in
theorem size_none (P L M N W H t : Nat) (lab : Nat → Int) (w : World) (hR : RegAt w P L M N W H lab) (ht : t < N) (hl : lab t = -1) :
    Calls Tryd.prog 44 #[.pointer (some ⟨P, 0, none⟩), .int .i64 t] w fun e w' => e = .returned (.int .i64 0) ∧ Grew w w' := by
  have HR : Hid (RegAt w P L M N W H lab) := hR
  have HX : Hid (lab t = -1) := hl
  clear hR hl
  go_enter Tryd.func44, Tryd.ntmps44
  go_wp2_with fail
  (go_at_call 52; refine (label_in P L M N W H t lab _ (HR.out.grew (by repeat (first | exact Grew.refl _ | assumption | refine Grew.drew ?_ | refine Grew.alloc ?_ _ | refine Grew.setCell ?_ (by (try simp only [World.size_alloc, World.size_drew]); omega) _ | refine Grew.trans ?_ (by assumption)))) ht).mono ?_; rintro e w1 ⟨rfl, hb⟩; obtain ⟨hc, hf⟩ := hb.facts; have hz := hb.size; (try simp only [World.size_alloc, World.size_drew] at hz))
  rw [HX.out]
  go_wp2_with fail
  go_ret
  exact ⟨rfl, (by repeat (first | exact Grew.refl _ | assumption | refine Grew.drew ?_ | refine Grew.alloc ?_ _ | refine Grew.setCell ?_ (by (try simp only [World.size_alloc, World.size_drew]); omega) _ | refine Grew.trans ?_ (by assumption)))⟩
set_option maxRecDepth 100000 in
set_option maxHeartbeats 4000000 in
theorem size_out (P L M N W H : Nat) (t : Int) (lab : Nat → Int) (w : World) (a : Addr) (hg : w.cell? ⟨1, 0, none⟩ = some (.iface 130 (.pointer (some a)))) (hR : RegAt w P L M N W H lab) (ht : t < 0 ∨ (N : Int) ≤ t) (hN : N ≤ 1024) :
    Calls Tryd.prog 44 #[.pointer (some ⟨P, 0, none⟩), .int .i64 t] w fun e w' => e = .returned (.int .i64 0) ∧ Grew w w' := by
  have HR : Hid (RegAt w P L M N W H lab) := hR
  have HG : Hid (∀ wr, Grew w wr → wr.cell? ⟨1, 0, none⟩ = some (.iface 130 (.pointer (some a)))) := fun wr g => (g.facts.1 _ _ (lt_of_cell hg)).trans hg
  clear hR hg
  go_enter Tryd.func44, Tryd.ntmps44
  go_wp2_with fail
  (go_at_call 52; refine (label_out P L M N W H t lab _ a (HG.out _ (by repeat (first | exact Grew.refl _ | assumption | refine Grew.drew ?_ | refine Grew.alloc ?_ _ | refine Grew.setCell ?_ (by (try simp only [World.size_alloc, World.size_drew]); omega) _ | refine Grew.trans ?_ (by assumption)))) (HR.out.grew (by repeat (first | exact Grew.refl _ | assumption | refine Grew.drew ?_ | refine Grew.alloc ?_ _ | refine Grew.setCell ?_ (by (try simp only [World.size_alloc, World.size_drew]); omega) _ | refine Grew.trans ?_ (by assumption)))) ht hN).mono ?_; rintro e w1 ⟨rfl, hb⟩; obtain ⟨hc, hf⟩ := hb.facts; have hz := hb.size; (try simp only [World.size_alloc, World.size_drew] at hz))
  go_wp2_with fail
  go_ret
  exact ⟨rfl, (by repeat (first | exact Grew.refl _ | assumption | refine Grew.drew ?_ | refine Grew.alloc ?_ _ | refine Grew.setCell ?_ (by (try simp only [World.size_alloc, World.size_drew]); omega) _ | refine Grew.trans ?_ (by assumption)))⟩
set_option maxRecDepth 100000 in
set_option maxHeartbeats 4000000 in
theorem size_in (P L M N W H t l c nn : Nat) (lab : Nat → Int) (D : DataW Unit) (w : World) (hR : RegAt w P L M N W H lab) (hS : SizesAt w M nn D) (ht : t < N) (hN : N ≤ 1024) (hl : lab t = (l : Int)) (hlN : l < N) (hat : ∀ z, D.atKey (.int .i64 l) z = .lit (.int .i64 c)) :
    Calls Tryd.prog 44 #[.pointer (some ⟨P, 0, none⟩), .int .i64 t] w fun e w' => e = .returned (.int .i64 c) ∧ Grew w w' := by
  have HR : Hid (RegAt w P L M N W H lab) := hR
  have HS : Hid (SizesAt w M nn D) := hS
  have HX : Hid (lab t = l) := hl
  have HA : Hid (∀ z, D.atKey (.int .i64 l) z = .lit (.int .i64 c)) := hat
  have c3 := hR.r3
  have hP := hR.hP
  have hwf : (Lit.int .i64 (l : Int)).wf = true := WalkArith.wf_i64 (by omega)
  clear hR hl hS hat
  go_enter Tryd.func44, Tryd.ntmps44
  go_wp2_with fail
  (go_at_call 52; refine (label_in P L M N W H t lab _ (HR.out.grew (by repeat (first | exact Grew.refl _ | assumption | refine Grew.drew ?_ | refine Grew.alloc ?_ _ | refine Grew.setCell ?_ (by (try simp only [World.size_alloc, World.size_drew]); omega) _ | refine Grew.trans ?_ (by assumption)))) ht).mono ?_; rintro e w1 ⟨rfl, hb⟩; obtain ⟨hc, hf⟩ := hb.facts; have hz := hb.size; (try simp only [World.size_alloc, World.size_drew] at hz); (try (have hcq := fun o => hc (P) o (by (try simp only [World.size_alloc, World.size_drew]); omega))); (try (have hq : P < w1.heap.size := by omega)))
  have HS1 : Hid (SizesAt w1 M nn D) := HS.out.grew (by repeat (first | exact Grew.refl _ | assumption | refine Grew.drew ?_ | refine Grew.alloc ?_ _ | refine Grew.setCell ?_ (by (try simp only [World.size_alloc, World.size_drew]); omega) _ | refine Grew.trans ?_ (by assumption)))
  have e1 : ((l : Int) == -1) = false := by rw [beq_eq_false_iff_ne]; omega
  rw [HX.out]
  go_wp2_with (at_lookup; refine wpList_lookup_own_int _ rfl _ _ 102 rfl 3 3 .i64 (int_keyed Tryd.underlying3) Tryd.underlying102 Tryd.underlying3 (by rfl) M nn D rfl HS1.out.raw _ _ rfl (keyOf_int_mk Tryd.underlying3 hwf) ?_; intro c' hat' hwc)
  have hcc : c' = c := by
    have := (HA.out _).symm.trans hat'
    injection this with this
    injection this with _ this
    exact this.symm
  subst hcc
  go_ret
  exact ⟨rfl, (by repeat (first | exact Grew.refl _ | assumption | refine Grew.drew ?_ | refine Grew.alloc ?_ _ | refine Grew.setCell ?_ (by (try simp only [World.size_alloc, World.size_drew]); omega) _ | refine Grew.trans ?_ (by assumption)))⟩
set_option maxRecDepth 100000 in
set_option maxHeartbeats 4000000 in
theorem rcount_any (P L M N W H nn : Nat) (lab : Nat → Int) (D : DataW Unit) (w : World) (hR : RegAt w P L M N W H lab) (hS : SizesAt w M nn D) :
    Calls Tryd.prog 34 #[.pointer (some ⟨P, 0, none⟩)] w fun e w' => e = .returned (.int .i64 (Maps.size D)) ∧ Grew w w' := by
  have HS : Hid (SizesAt w M nn D) := hS
  have c3 := hR.r3
  clear hR hS
  go_enter Tryd.func34, Tryd.ntmps34
  have hlen := HS.out.raw.len (t := 102) Tryd.underlying102 3
  go_wp2
  go_ret
  exact ⟨rfl, (by repeat (first | exact Grew.refl _ | assumption | refine Grew.drew ?_ | refine Grew.alloc ?_ _ | refine Grew.setCell ?_ (by (try simp only [World.size_alloc, World.size_drew]); omega) _ | refine Grew.trans ?_ (by assumption)))⟩
end Go.Proofs.YtbgbfljbjpbinaaDoor

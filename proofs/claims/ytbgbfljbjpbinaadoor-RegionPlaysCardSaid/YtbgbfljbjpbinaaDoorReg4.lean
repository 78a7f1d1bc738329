/- The walk of (*region.Regions).cut: what its two loops do, told step by step. Conditions: the region's cells, its map. -/
import Derived.Test.YtbgbfljbjpbinaaDoorReg3
import Derived.Maps.OwnSet
import Derived.Deep.RegionHeld3
namespace Go.Proofs.YtbgbfljbjpbinaaDoor
set_option linter.unusedSimpArgs false
set_option linter.unusedVariables false
open Go.RowKit Go.Maps

/-- w' is w with new blocks, and blocks C and D turned. -/
structure Turn2 (C D : Nat) (w w' : World) : Prop where
  os : w'.os = w.os
  tape : w'.tape = w.tape
  output : w'.output = w.output
  size : w.heap.size ≤ w'.heap.size
  block : ∀ k, k < w.heap.size → k ≠ C → k ≠ D → w'.heap[k]? = w.heap[k]?
theorem Turn.two {C : Nat} {w w' : World} (h : Turn C w w') (D : Nat) : Turn2 C D w w' := ⟨h.os, h.tape, h.output, h.size, fun k hk h1 _ => h.block k hk h1⟩
theorem Turn2.refl (C D : Nat) (w : World) : Turn2 C D w w := (Turn.refl C w).two D
theorem Turn2.trans {C D : Nat} {a b c : World} (h : Turn2 C D a b) (k : Turn2 C D b c) : Turn2 C D a c :=
  ⟨k.os.trans h.os, k.tape.trans h.tape, k.output.trans h.output, Nat.le_trans h.size k.size, fun i hi h1 h2 => (k.block i (Nat.lt_of_lt_of_le hi h.size) h1 h2).trans (h.block i hi h1 h2)⟩
theorem Turn2.more {C D : Nat} {a b c : World} (h : Turn2 C D a b) (k : Grew b c) : Turn2 C D a c := h.trans ((k.turn C).two D)
theorem Turn2.map {C D : Nat} {a b c : World} (h : Turn2 C D a b) (k : b.grownBy c (some D)) : Turn2 C D a c :=
  h.trans ⟨k.os, k.tape, k.output, k.size, fun i hi _ h2 => k.block i hi (by simpa using h2)⟩
theorem Turn2.grew {C D : Nat} {a w w' : World} (h : Turn2 C D w w') (g : Grew a w) (hC : a.heap.size ≤ C) (hD : a.heap.size ≤ D) : Grew a w' :=
  ⟨h.os.trans g.below.os, h.tape.trans g.below.tape, h.output.trans g.below.output, Nat.le_trans g.size h.size, fun k hk => (h.block k (Nat.lt_of_lt_of_le hk g.size) (by omega) (by omega)).trans (g.below.block k hk)⟩
theorem Turn2.facts {C D : Nat} {W w1 : World} (hb : Turn2 C D W w1) :
    (∀ b o, b < W.heap.size → b ≠ C → b ≠ D → w1.cell? ⟨b, o, none⟩ = W.cell? ⟨b, o, none⟩) ∧ (∀ b o, b < W.heap.size → b ≠ C → b ≠ D → w1.frozen? ⟨b, o, none⟩ = W.frozen? ⟨b, o, none⟩) :=
  ⟨fun b o h h1 h2 => World.cell?_of_block (w := W) (hb.block b h h1 h2), fun b o h h1 h2 => World.frozen?_of_block (w := W) (hb.block b h h1 h2)⟩
theorem RegAt.map {w w' : World} {P L M N W H : Nat} {lab : Nat → Int} (h : RegAt w P L M N W H lab) (g : w.grownBy w' (some M)) : RegAt w' P L M N W H lab := by
  have q : ∀ o, w'.cell? ⟨P, o, none⟩ = w.cell? ⟨P, o, none⟩ := fun o => World.cell?_of_block (w := w) (g.block P h.hP (by simpa using fun e => h.nm.1 e.symm))
  have r : ∀ o, w'.cell? ⟨L, o, none⟩ = w.cell? ⟨L, o, none⟩ := fun o => World.cell?_of_block (w := w) (g.block L h.hL (by simpa using fun e => h.nm.2 e.symm))
  exact ⟨(q _).trans h.r0, (q _).trans h.r1, h.r2.imp fun _ e => (q _).trans e, (q _).trans h.r3, fun j hj => (r _).trans (h.ls j hj), fun o => (World.frozen?_of_block (w := w) (g.block L h.hL (by simpa using fun e => h.nm.2 e.symm))).trans (h.fz o), h.ne, h.nm, by have := g.size; have := h.hP; omega, by have := g.size; have := h.hL; omega⟩

/-- The region's sizes lie in the map at block M. -/
def SizesAt (w : World) (M n : Nat) (D : DataW Unit) : Prop := w.ownsMap Tryd.prog 3 (plainElem Tryd.prog 3) M n D
theorem SizesAt.raw {w : World} {M n : Nat} {D : DataW Unit} (h : SizesAt w M n D) : w.ownsMap Tryd.prog 3 (plainElem Tryd.prog 3) M n D := h
theorem SizesAt.block {w w' : World} {M n : Nat} {D : DataW Unit} (h : SizesAt w M n D) (e : w'.heap[M]? = w.heap[M]?) : SizesAt w' M n D := by
  obtain ⟨es, clock, hb, rest⟩ := h.raw
  exact ⟨es, clock, e.trans hb, rest⟩
theorem SizesAt.lt {w : World} {M n : Nat} {D : DataW Unit} (h : SizesAt w M n D) : M < w.heap.size := World.ownsMap.lt h.raw
theorem SizesAt.grew {w w' : World} {M n : Nat} {D : DataW Unit} (h : SizesAt w M n D) (g : Grew w w') : SizesAt w' M n D := h.block (g.below.block M h.lt)
theorem SizesAt.turn {w w' : World} {M n C : Nat} {D : DataW Unit} (h : SizesAt w M n D) (g : Turn C w w') (hn : M ≠ C) : SizesAt w' M n D := h.block (g.block M h.lt hn)
theorem SizesAt.mono {w : World} {M n n' : Nat} {D : DataW Unit} (h : SizesAt w M n D) (hn : n ≤ n') : SizesAt w M n' D := World.ownsMap.mono h.raw hn

/-- The first loop of cut: neighbours that bear the old label are filled with marks. -/
inductive Ph1 (W N : Nat) (old : Int) (ns : List Int) (lab0 : Nat → Int) : Nat → (Nat → Int) → Prop
  | start : Ph1 W N old ns lab0 0 lab0
  | skip {i k : Nat} {lab : Nat → Int} : Ph1 W N old ns lab0 i lab → ns[i]? = some (k : Int) → k < N → lab k ≠ old → Ph1 W N old ns lab0 (i + 1) lab
  | fill {i k : Nat} {lab : Nat → Int} {R : Nat → Bool} : Ph1 W N old ns lab0 i lab → ns[i]? = some (k : Int) → k < N → lab k = old → FillAt W N k ((N : Int) + k) lab R [] (passed R N).length → Ph1 W N old ns lab0 (i + 1) (fun j => if R j = true then (N : Int) + k else lab j)
/-- The second: whatever bears a mark is filled with its least tile; its size goes into the map. -/
inductive Ph2 (W N : Nat) (lab1 : Nat → Int) (D1 : DataW Unit) : Nat → (Nat → Int) → DataW Unit → Prop
  | start : Ph2 W N lab1 D1 0 lab1 D1
  | skip {k : Nat} {lab : Nat → Int} {D : DataW Unit} : Ph2 W N lab1 D1 k lab D → k < N → lab k < N → Ph2 W N lab1 D1 (k + 1) lab D
  | fill {k : Nat} {lab : Nat → Int} {D : DataW Unit} {R : Nat → Bool} : Ph2 W N lab1 D1 k lab D → k < N → (N : Int) ≤ lab k → FillAt W N k k lab R [] (passed R N).length → Ph2 W N lab1 D1 (k + 1) (fun j => if R j = true then (k : Int) else lab j) (D.put (.int .i64 k) (.lit (.int .i64 (passed R N).length)))

set_option maxRecDepth 100000 in
set_option maxHeartbeats 16000000 in
theorem cut_any (P L M N W H t nn : Nat) (lab : Nat → Int) (D : DataW Unit) (w : World) (hR : RegAt w P L M N W H lab) (hS : SizesAt w M nn D) (hW : 1 ≤ W ∧ W ≤ 32) (hNW : N = W * H) (hN : N ≤ 1024) (ht : t < N) (hl : -1 ≤ lab t ∧ lab t ≤ 1000000) (hnn : nn ≤ 1000000) :
    Calls Tryd.prog 63 #[.pointer (some ⟨P, 0, none⟩), .int .i64 t] w fun e w' => (∃ (lab1 lab2 : Nat → Int) (D2 : DataW Unit), e = .returned (.tuple #[]) ∧ Ph1 W N (lab t) (nbr W N t) (fun j => if j = t then -1 else lab j) (nbr W N t).length lab1 ∧ Ph2 W N lab1 (D.del (.int .i64 (lab t))) N lab2 D2 ∧ RegAt w' P L M N W H lab2 ∧ SizesAt w' M (nn + N) D2) ∧ Turn2 L M w w' := by
  have HR : Hid (RegAt w P L M N W H lab) := hR
  have HS : Hid (SizesAt w M nn D) := hS
  have HNW : Hid (N = W * H) := hNW
  obtain ⟨c0, c1, ⟨Kc, c2⟩, c3, -, cf, hne, ⟨hnm1, hnm2⟩, hP, hL⟩ := hR
  have hct := HR.out.ls t ht
  have hne' : L ≠ P := fun e => hne e.symm
  have hM := hS.lt
  obtain ⟨old, hold⟩ : ∃ old, old = lab t := ⟨_, rfl⟩
  rw [← hold] at hct hl ⊢
  have hwf : (Lit.int .i64 old).wf = true := WalkArith.wf_i64 (by omega)
  have HR1 : Hid (RegAt (w.setCell ⟨L, t, none⟩ (.int .i64 (-1))) P L M N W H (fun j => if j = t then -1 else lab j)) := HR.out.set t ht (-1)
  have HS1 : Hid (SizesAt (w.setCell ⟨L, t, none⟩ (.int .i64 (-1))) M nn D) := HS.out.turn (Turn.setCell (Turn.refl L w) rfl _) hnm2
  clear hNW hS hold
  go_enter Tryd.func63, Tryd.ntmps63
  go_wp2_with (at_delete; refine wpList_delete_own _ rfl _ _ 102 3 rfl 3 (int_keyed Tryd.underlying3) Tryd.underlying102 _ M nn D rfl HS1.out.raw _ _ rfl (keyOf_int_mk Tryd.underlying3 hwf) ?_; intro w1 hown1 hturn1; obtain ⟨K2, d2⟩ := (HR1.out.map hturn1.grown).r2; have d3 := (HR1.out.map hturn1.grown).r3)
  have HR2 : Hid (RegAt w1 P L M N W H (fun j => if j = t then -1 else lab j)) := HR1.out.map hturn1.grown
  have HS2 : Hid (SizesAt w1 M nn (D.del (.int .i64 old))) := hown1
  have HT2 : Hid (Turn2 L M w w1) := (((Turn.refl L w).setCell (p := ⟨L, t, none⟩) rfl (.int .i64 (-1))).two M).map hturn1.grown
  have hz1 : w.heap.size ≤ w1.heap.size := HT2.out.size
  clear hown1 hturn1 HR1 HS1 c0 c1 c2 c3 cf hct
  (go_at_call 75; refine (next_any P L M N W H t _ _ (HR2.out.grew (by repeat (first | exact Grew.refl _ | assumption | refine Grew.drew ?_ | refine Grew.alloc ?_ _ | refine Grew.setCell ?_ (by (try simp only [World.size_alloc, World.size_drew]); omega) _ | refine Grew.trans ?_ (by assumption)))) hW hN ht).mono ?_; rintro e w2 ⟨⟨nv, rfl, ⟨ao, ncap, rfl, hnv⟩⟩, hb⟩; obtain ⟨hc, hf⟩ := hb.facts; have hz := hb.size; (try simp only [World.size_alloc, World.size_drew] at hz); (try (have hcq := fun o => hc (P) o (by (try simp only [World.size_alloc, World.size_drew]); omega))); (try (have hq : P < w2.heap.size := by omega)))
  have hG2 : Grew w1 w2 := (by repeat (first | exact Grew.refl _ | assumption | refine Grew.drew ?_ | refine Grew.alloc ?_ _ | refine Grew.setCell ?_ (by (try simp only [World.size_alloc, World.size_drew]); omega) _ | refine Grew.trans ?_ (by assumption)))
  have hG2z := hG2.size
  have HNV : Hid (nbr W N t = [] ∨ ∃ bb, ao = some ⟨bb, 0, none⟩ ∧ w1.heap.size ≤ bb ∧ bb < w2.heap.size ∧ ∀ k x, (nbr W N t)[k]? = some x → w2.cell? ⟨bb, k, none⟩ = some (.int .i64 x)) := hnv
  have HR3 : Hid (RegAt w2 P L M N W H (fun j => if j = t then -1 else lab j)) := HR2.out.grew hG2
  have HS3 : Hid (SizesAt w2 M nn (D.del (.int .i64 old))) := HS2.out.grew hG2
  have HT3 : Hid (Turn2 L M w w2) := HT2.out.more hG2
  obtain ⟨ln, hln⟩ : ∃ ln, ln = (nbr W N t).length := ⟨_, rfl⟩
  rw [← hln]
  have HLN : Hid (ln = (nbr W N t).length) := hln
  have hln4 : ln ≤ 4 := by
    rw [hln]; unfold nbr; simp only [List.length_append]
    repeat' split
    all_goals simp
  clear hnv hln
  go_wp2_with fail
  go_loopw [36] (fun i wr => ∃ (q : Nat) (lab' : Nat → Int), q ≤ ln ∧ i = .int .i64 q ∧ Ph1 W N old (nbr W N t) (fun j => if j = t then -1 else lab j) q lab' ∧ RegAt wr P L M N W H lab' ∧ Turn L w2 wr) (fun i wr => ln - (intOf i).toNat)
  case atStart => exact ⟨0, _, Nat.zero_le _, by simp, .start, HR3.out, Turn.refl _ _⟩
  case round =>
    obtain ⟨q, lab', hq, rfl, hPh, hRr, hT⟩ := hrel
    have HPh : Hid (Ph1 W N old (nbr W N t) (fun j => if j = t then -1 else lab j) q lab') := hPh
    have HRr : Hid (RegAt wr P L M N W H lab') := hRr
    have HT : Hid (Turn L w2 wr) := hT
    have hwz := hT.size
    obtain ⟨Kr, cr2⟩ := hRr.r2
    have hPr := hRr.hP
    clear hPh hRr hT
    by_cases hlq : q < ln
    · obtain ⟨x, hx⟩ : ∃ x, (nbr W N t)[q]? = some x := ⟨(nbr W N t)[q]'(by rw [← HLN.out]; exact hlq), by simp⟩
      obtain ⟨k, rfl, hkN⟩ := nbr_mem hW.1 HNW.out ht (List.mem_of_getElem? hx)
      rcases HNV.out with hnil | ⟨bb, rfl, hb0, hb1, hbc⟩
      · exfalso; have := HLN.out; rw [hnil] at this; simp at this; omega
      have hxc : wr.cell? ⟨bb, q, none⟩ = some (.int .i64 k) := (HT.out.facts.1 bb q hb1 (by omega)).trans (hbc q k hx)
      have HX : Hid ((nbr W N t)[q]? = some (k : Int)) := hx
      obtain ⟨y, hy⟩ : ∃ y, y = lab' k := ⟨_, rfl⟩
      have hyc : wr.cell? ⟨L, k, none⟩ = some (.int .i64 y) := by rw [hy]; exact HRr.out.ls k hkN
      have HY : Hid (y = lab' k) := hy
      clear hbc hx hy
      by_cases hy1 : y = old
      · subst hy1
        go_wp2_with fail
        go_at_call 76
        refine (fill_any P L M N W H k ((N : Int) + k) lab' _ (HRr.out.grew (by repeat (first | exact Grew.refl _ | assumption | refine Grew.drew ?_ | refine Grew.alloc ?_ _ | refine Grew.setCell ?_ (by (try simp only [World.size_alloc, World.size_drew]); omega) _ | refine Grew.trans ?_ (by assumption)))) hW HNW.out hN hkN (by omega) (by omega)).mono ?_
        rintro e w4 ⟨⟨R, rfl, hF4, hR4⟩, hT4⟩
        have HPn : Hid (Ph1 W N y (nbr W N t) (fun j => if j = t then -1 else lab j) (q + 1) (fun j => if R j = true then (N : Int) + k else lab' j)) := .fill HPh.out HX.out hkN HY.out.symm hF4
        have HRn : Hid (RegAt w4 P L M N W H (fun j => if R j = true then (N : Int) + k else lab' j)) := hR4
        have HTn : Hid (Turn L w2 w4) := (HT.out.more (by repeat (first | exact Grew.refl _ | assumption | refine Grew.drew ?_ | refine Grew.alloc ?_ _ | refine Grew.setCell ?_ (by (try simp only [World.size_alloc, World.size_drew]); omega) _ | refine Grew.trans ?_ (by assumption)))).trans hT4
        clear hF4 hR4 hT4
        go_wp2_with fail
        go_roundw
        case rel => exact ⟨q + 1, _, by omega, by go_num, HPn.out, HRn.out, HTn.out⟩
        case measure => simp [intOf]; omega
      · have HPn : Hid (Ph1 W N old (nbr W N t) (fun j => if j = t then -1 else lab j) (q + 1) lab') := .skip HPh.out HX.out hkN (by rw [← HY.out]; exact hy1)
        have e1 : (y == old) = false := by rw [beq_eq_false_iff_ne]; exact hy1
        clear hy1
        go_wp2_with fail
        go_roundw
        case rel => exact ⟨q + 1, _, by omega, by go_num, HPn.out, HRr.out, HT.out⟩
        case measure => simp [intOf]; omega
    · obtain rfl : q = ln := by omega
      have HSr : Hid (SizesAt wr M nn (D.del (.int .i64 old))) := HS3.out.turn HT.out hnm2
      have HTr : Hid (Turn2 L M w wr) := HT3.out.trans (HT.out.two M)
      have hMr : M < wr.heap.size := HSr.out.lt
      clear HT3 HS3 HNV HR3 HR2 HS2 HT2
      go_wp2_with fail
      obtain ⟨wo, rfl⟩ : ∃ wo : World, wo = wr := ⟨_, rfl⟩
      go_loopw [61] (fun i wr => ∃ (k : Nat) (lab2 : Nat → Int) (D2 : DataW Unit), k ≤ N ∧ i = .int .i64 k ∧ Ph2 W N lab' (D.del (.int .i64 old)) k lab2 D2 ∧ RegAt wr P L M N W H lab2 ∧ SizesAt wr M (nn + k) D2 ∧ Turn2 L M w wr) (fun i wr => N - (intOf i).toNat)
      case atStart => exact ⟨0, _, _, Nat.zero_le _, by simp, .start, HRr.out.grew (by repeat (first | exact Grew.refl _ | assumption | refine Grew.drew ?_ | refine Grew.alloc ?_ _ | refine Grew.setCell ?_ (by (try simp only [World.size_alloc, World.size_drew]); omega) _ | refine Grew.trans ?_ (by assumption))), HSr.out.grew (by repeat (first | exact Grew.refl _ | assumption | refine Grew.drew ?_ | refine Grew.alloc ?_ _ | refine Grew.setCell ?_ (by (try simp only [World.size_alloc, World.size_drew]); omega) _ | refine Grew.trans ?_ (by assumption))), HTr.out.more (by repeat (first | exact Grew.refl _ | assumption | refine Grew.drew ?_ | refine Grew.alloc ?_ _ | refine Grew.setCell ?_ (by (try simp only [World.size_alloc, World.size_drew]); omega) _ | refine Grew.trans ?_ (by assumption)))⟩
      case round =>
        obtain ⟨k, lab2, D2, hk, rfl, hPh2, hR2, hS2, hT2⟩ := hrel
        have HPh2 : Hid (Ph2 W N lab' (D.del (.int .i64 old)) k lab2 D2) := hPh2
        have HR2 : Hid (RegAt wr P L M N W H lab2) := hR2
        have HS2 : Hid (SizesAt wr M (nn + k) D2) := hS2
        have HT2 : Hid (Turn2 L M w wr) := hT2
        obtain ⟨K5, e2⟩ := hR2.r2
        have e3 := hR2.r3
        have hP5 := hR2.hP
        clear hPh2 hR2 hS2 hT2
        by_cases hlk : k < N
        · obtain ⟨y, hy⟩ : ∃ y, y = lab2 k := ⟨_, rfl⟩
          have hyc : wr.cell? ⟨L, k, none⟩ = some (.int .i64 y) := by rw [hy]; exact HR2.out.ls k hlk
          have HY : Hid (y = lab2 k) := hy
          clear hy
          by_cases hyN : (N : Int) ≤ y
          · go_wp2_with fail
            refine wp_region_held_drew (S := (fun w' => w'.cell? ⟨P, 3, none⟩ = some (.map (some M)) ∧ P < w'.heap.size)) (by kernel_rfl) (by ((try dsimp only); (refine ⟨?_, ?_⟩ <;> first | (go_keep; done) | omega | (simp [go_sem, *]; done) | ((try rw [World.cell?_drew]); (repeat rw [World.cell?_alloc_lt _ _ _ (by (try simp only [World.size_alloc]); omega)]); assumption) | (simp only [World.size_drew, World.size_alloc]; omega) | ((refine Grew.trans ?_ (by assumption)); simp [*]; done) | ((repeat (first | exact Grew.refl _ | assumption | refine Grew.drew ?_ | refine Grew.alloc ?_ _ | refine Grew.setCell ?_ (by (try simp only [World.size_alloc, World.size_drew]); omega) _ | refine Grew.trans ?_ (by assumption))); done)))) (fun hHeld => ?_)
            (try dsimp only at hHeld); (try simp only [World.cell?_drew, World.size_drew] at hHeld)
            first | ((refine wpAnyH_take (i := 0) (oi := ⟨(some 73), _, _, _, _, _⟩) (v := undef) rfl (by kernel_rfl) (by kernel_rfl) (by kernel_rfl) (fun _ _ _ h => h) (Or.inr ⟨by rfl, rfl⟩) (by assumption) ?_); (try simp only [Act.put, List.setIfInBounds_toArray, List.set_cons_zero, List.set_cons_succ])) | ((refine wpAnyH_take (i := 0) (oi := ⟨(some 73), _, _, _, _, _⟩) (v := ?_) rfl (by kernel_rfl) (by kernel_rfl) (by kernel_rfl) (fun _ _ _ h => h) (Or.inl ⟨by rfl, ?_⟩) (by assumption) ?_; rotate_left; focus ((intro w hSw; (try dsimp only at hSw); go_simp; (try with_reducible rfl)); done)); (try simp only [Act.put, List.setIfInBounds_toArray, List.set_cons_zero, List.set_cons_succ]))
            first | ((refine wpAnyH_take (i := 1) (oi := ⟨(some 74), _, _, _, _, _⟩) (v := undef) rfl (by kernel_rfl) (by kernel_rfl) (by kernel_rfl) (fun _ _ _ h => h) (Or.inr ⟨by rfl, rfl⟩) (by assumption) ?_); (try simp only [Act.put, List.setIfInBounds_toArray, List.set_cons_zero, List.set_cons_succ])) | ((refine wpAnyH_take (i := 1) (oi := ⟨(some 74), _, _, _, _, _⟩) (v := ?_) rfl (by kernel_rfl) (by kernel_rfl) (by kernel_rfl) (fun _ _ _ h => h) (Or.inl ⟨by rfl, ?_⟩) (by assumption) ?_; rotate_left; focus ((intro w hSw; (try dsimp only at hSw); go_simp; (try with_reducible rfl)); done)); (try simp only [Act.put, List.setIfInBounds_toArray, List.set_cons_zero, List.set_cons_succ]))
            first | ((refine wpAnyH_take (i := 2) (oi := ⟨(some 75), _, _, _, _, _⟩) (v := undef) rfl (by kernel_rfl) (by kernel_rfl) (by kernel_rfl) (fun _ _ _ h => h) (Or.inr ⟨by rfl, rfl⟩) (by assumption) ?_); (try simp only [Act.put, List.setIfInBounds_toArray, List.set_cons_zero, List.set_cons_succ])) | ((refine wpAnyH_take (i := 2) (oi := ⟨(some 75), _, _, _, _, _⟩) (v := ?_) rfl (by kernel_rfl) (by kernel_rfl) (by kernel_rfl) (fun _ _ _ h => h) (Or.inl ⟨by rfl, ?_⟩) (by assumption) ?_; rotate_left; focus ((intro w hSw; (try dsimp only at hSw); go_simp; (try with_reducible rfl)); done)); (try simp only [Act.put, List.setIfInBounds_toArray, List.set_cons_zero, List.set_cons_succ]))
            first | ((refine wpAnyH_take (i := 3) (oi := ⟨(some 76), _, _, _, _, _⟩) (v := undef) rfl (by kernel_rfl) (by kernel_rfl) (by kernel_rfl) (fun _ _ _ h => h) (Or.inr ⟨by rfl, rfl⟩) (by assumption) ?_); (try simp only [Act.put, List.setIfInBounds_toArray, List.set_cons_zero, List.set_cons_succ])) | ((refine wpAnyH_take (i := 3) (oi := ⟨(some 76), _, _, _, _, _⟩) (v := ?_) rfl (by kernel_rfl) (by kernel_rfl) (by kernel_rfl) (fun _ _ _ h => h) (Or.inl ⟨by rfl, ?_⟩) (by assumption) ?_; rotate_left; focus ((intro w hSw; (try dsimp only at hSw); go_simp; (try with_reducible rfl)); done)); (try simp only [Act.put, List.setIfInBounds_toArray, List.set_cons_zero, List.set_cons_succ]))
            first | ((refine wpAnyH_take (i := 4) (oi := ⟨(some 77), _, _, _, _, _⟩) (v := undef) rfl (by kernel_rfl) (by kernel_rfl) (by kernel_rfl) (fun _ _ _ h => h) (Or.inr ⟨by rfl, rfl⟩) (by assumption) ?_); (try simp only [Act.put, List.setIfInBounds_toArray, List.set_cons_zero, List.set_cons_succ])) | ((refine wpAnyH_take (i := 4) (oi := ⟨(some 77), _, _, _, _, _⟩) (v := ?_) rfl (by kernel_rfl) (by kernel_rfl) (by kernel_rfl) (fun _ _ _ h => h) (Or.inl ⟨by rfl, ?_⟩) (by assumption) ?_; rotate_left; focus ((intro w hSw; (try dsimp only at hSw); go_simp; (try with_reducible rfl)); done)); (try simp only [Act.put, List.setIfInBounds_toArray, List.set_cons_zero, List.set_cons_succ]))
            first | ((refine wpAnyH_take (i := 5) (oi := ⟨(some 78), _, _, _, _, _⟩) (v := undef) rfl (by kernel_rfl) (by kernel_rfl) (by kernel_rfl) (fun _ _ _ h => h) (Or.inr ⟨by rfl, rfl⟩) (by assumption) ?_); (try simp only [Act.put, List.setIfInBounds_toArray, List.set_cons_zero, List.set_cons_succ])) | ((refine wpAnyH_take (i := 5) (oi := ⟨(some 78), _, _, _, _, _⟩) (v := ?_) rfl (by kernel_rfl) (by kernel_rfl) (by kernel_rfl) (fun _ _ _ h => h) (Or.inl ⟨by rfl, ?_⟩) (by assumption) ?_; rotate_left; focus ((intro w hSw; (try dsimp only at hSw); go_simp; (try with_reducible rfl)); done)); (try simp only [Act.put, List.setIfInBounds_toArray, List.set_cons_zero, List.set_cons_succ]))
            first | ((refine wpAnyH_take (i := 6) (oi := ⟨(some 79), _, _, _, _, _⟩) (v := undef) rfl (by kernel_rfl) (by kernel_rfl) (by kernel_rfl) (fun _ _ _ h => h) (Or.inr ⟨by rfl, rfl⟩) (by assumption) ?_); (try simp only [Act.put, List.setIfInBounds_toArray, List.set_cons_zero, List.set_cons_succ])) | ((refine wpAnyH_take (i := 6) (oi := ⟨(some 79), _, _, _, _, _⟩) (v := ?_) rfl (by kernel_rfl) (by kernel_rfl) (by kernel_rfl) (fun _ _ _ h => h) (Or.inl ⟨by rfl, ?_⟩) (by assumption) ?_; rotate_left; focus ((intro w hSw; (try dsimp only at hSw); go_simp; (try with_reducible rfl)); done)); (try simp only [Act.put, List.setIfInBounds_toArray, List.set_cons_zero, List.set_cons_succ]))
            first | ((refine wpAnyH_take (i := 7) (oi := ⟨(some 80), _, _, _, _, _⟩) (v := undef) rfl (by kernel_rfl) (by kernel_rfl) (by kernel_rfl) (fun _ _ _ h => h) (Or.inr ⟨by rfl, rfl⟩) (by assumption) ?_); (try simp only [Act.put, List.setIfInBounds_toArray, List.set_cons_zero, List.set_cons_succ])) | ((refine wpAnyH_take (i := 7) (oi := ⟨(some 80), _, _, _, _, _⟩) (v := ?_) rfl (by kernel_rfl) (by kernel_rfl) (by kernel_rfl) (fun _ _ _ h => h) (Or.inl ⟨by rfl, ?_⟩) (by assumption) ?_; rotate_left; focus ((intro w hSw; (try dsimp only at hSw); go_simp; (try with_reducible rfl)); done)); (try simp only [Act.put, List.setIfInBounds_toArray, List.set_cons_zero, List.set_cons_succ]))
            first | ((refine wpAnyH_take (i := 8) (oi := ⟨(some 81), _, _, _, _, _⟩) (v := undef) rfl (by kernel_rfl) (by kernel_rfl) (by kernel_rfl) (fun _ _ _ h => h) (Or.inr ⟨by rfl, rfl⟩) (by assumption) ?_); (try simp only [Act.put, List.setIfInBounds_toArray, List.set_cons_zero, List.set_cons_succ])) | (refine wpAnyH_ready (rs := [8]) (by kernel_rfl) (by simp) ?_; refine AllReadyH.cons (o := ⟨(some 81), _, _, _, _, _⟩) rfl (fun K hK => ?_) AllReadyH.nil; go_simp; ((go_at_call 76; refine (fill_any P L M N W H k (k : Int) lab2 _ (HR2.out.grew (by repeat (first | exact Grew.refl _ | assumption | refine Grew.drew ?_ | refine Grew.alloc ?_ _ | refine Grew.setCell ?_ (by (try simp only [World.size_alloc, World.size_drew]); omega) _ | refine Grew.trans ?_ (by assumption)))) hW HNW.out hN hlk (by omega) (by omega)).mono ?_; rintro e w6 ⟨⟨R, rfl, hF6, hR6⟩, hT6⟩; have q3 := hR6.r3; have qP := hR6.hP; have hS6 := (HS2.out.grew (by repeat (first | exact Grew.refl _ | assumption | refine Grew.drew ?_ | refine Grew.alloc ?_ _ | refine Grew.setCell ?_ (by (try simp only [World.size_alloc, World.size_drew]); omega) _ | refine Grew.trans ?_ (by assumption)))).turn hT6 hnm2; have hT66 := (HT2.out.more (by repeat (first | exact Grew.refl _ | assumption | refine Grew.drew ?_ | refine Grew.alloc ?_ _ | refine Grew.setCell ?_ (by (try simp only [World.size_alloc, World.size_drew]); omega) _ | refine Grew.trans ?_ (by assumption)))).trans (hT6.two M); have hlenR := passed_le R N)); refine hK.out _ _ (by ((try dsimp only); (refine ⟨?_, ?_⟩ <;> first | (go_keep; done) | omega | (simp [go_sem, *]; done) | ((try rw [World.cell?_drew]); (repeat rw [World.cell?_alloc_lt _ _ _ (by (try simp only [World.size_alloc]); omega)]); assumption) | (simp only [World.size_drew, World.size_alloc]; omega) | ((refine Grew.trans ?_ (by assumption)); simp [*]; done) | ((repeat (first | exact Grew.refl _ | assumption | refine Grew.drew ?_ | refine Grew.alloc ?_ _ | refine Grew.setCell ?_ (by (try simp only [World.size_alloc, World.size_drew]); omega) _ | refine Grew.trans ?_ (by assumption))); done)))) (fun hHeldN => ?_); clear hK K hHeld; have hHeld := hHeldN; clear hHeldN; (try dsimp only at hHeld); (try simp only [World.cell?_drew, World.size_drew] at hHeld); (try simp only [Act.put, List.setIfInBounds_toArray, List.set_cons_zero, List.set_cons_succ]))
            refine wpAnyH_ready (rs := [9]) (by kernel_rfl) (by simp) ?_; refine AllReadyH.cons (o := ⟨none, _, _, _, _, _⟩) rfl (fun K hK => ?_) AllReadyH.nil; go_simp; (obtain ⟨w7, hrun7, hown7, hg7⟩ := World.ownsMap.update (t := 102) (hS6.grew (by repeat (first | exact Grew.refl _ | assumption | refine Grew.drew ?_ | refine Grew.alloc ?_ _ | refine Grew.setCell ?_ (by (try simp only [World.size_alloc, World.size_drew]); omega) _ | refine Grew.trans ?_ (by assumption)))).raw (int_keyed Tryd.underlying3) Tryd.underlying102 (by unfold maxLen; omega) (keyOf_int_mk (a := (k : Int)) Tryd.underlying3 (WalkArith.wf_i64 (by omega))) (plainElem_int (a := ((passed R N).length : Int)) Tryd.underlying3 (WalkArith.wf_i64 (by omega))); simp only [hrun7, Result.andThen, Oper.upon]; have hR7 := (hR6.grew (by repeat (first | exact Grew.refl _ | assumption | refine Grew.drew ?_ | refine Grew.alloc ?_ _ | refine Grew.setCell ?_ (by (try simp only [World.size_alloc, World.size_drew]); omega) _ | refine Grew.trans ?_ (by assumption)))).map hg7; have q37 := hR7.r3; have qP7 := hR7.hP; have hT77 := (hT66.more (by repeat (first | exact Grew.refl _ | assumption | refine Grew.drew ?_ | refine Grew.alloc ?_ _ | refine Grew.setCell ?_ (by (try simp only [World.size_alloc, World.size_drew]); omega) _ | refine Grew.trans ?_ (by assumption)))).map hg7); refine hK.out _ _ (by ((try dsimp only); (refine ⟨?_, ?_⟩ <;> first | (go_keep; done) | omega | (simp [go_sem, *]; done) | ((try rw [World.cell?_drew]); (repeat rw [World.cell?_alloc_lt _ _ _ (by (try simp only [World.size_alloc]); omega)]); assumption) | (simp only [World.size_drew, World.size_alloc]; omega) | ((refine Grew.trans ?_ (by assumption)); simp [*]; done) | ((repeat (first | exact Grew.refl _ | assumption | refine Grew.drew ?_ | refine Grew.alloc ?_ _ | refine Grew.setCell ?_ (by (try simp only [World.size_alloc, World.size_drew]); omega) _ | refine Grew.trans ?_ (by assumption))); done)))) (fun hHeldN => ?_); clear hK K hHeld; have hHeld := hHeldN; clear hHeldN; (try dsimp only at hHeld); (try simp only [World.cell?_drew, World.size_drew] at hHeld); (try simp only [Act.put, List.setIfInBounds_toArray, List.set_cons_zero, List.set_cons_succ])
            refine wpAnyH_done (by kernel_rfl) ?_ _
            obtain ⟨hH0, hH1⟩ := hHeld
            have HPn : Hid (Ph2 W N lab' (D.del (.int .i64 old)) (k + 1) (fun j => if R j = true then (k : Int) else lab2 j) (D2.put (.int .i64 k) (.lit (.int .i64 (passed R N).length)))) := .fill HPh2.out hlk (by rw [← HY.out]; exact hyN) hF6
            have HRn : Hid (RegAt w7 P L M N W H (fun j => if R j = true then (k : Int) else lab2 j)) := hR7
            have HSn : Hid (SizesAt w7 M (nn + (k + 1)) (D2.put (.int .i64 k) (.lit (.int .i64 (passed R N).length)))) := hown7
            have HTn : Hid (Turn2 L M w w7) := hT77
            clear hF6 hR6 hT6 hS6 hT66 hown7 hg7 hR7 hT77
            go_wp2_with fail
            go_roundw
            case rel => exact ⟨k + 1, _, _, by omega, by go_num, HPn.out, HRn.out.grew (by repeat (first | exact Grew.refl _ | assumption | refine Grew.drew ?_ | refine Grew.alloc ?_ _ | refine Grew.setCell ?_ (by (try simp only [World.size_alloc, World.size_drew]); omega) _ | refine Grew.trans ?_ (by assumption))), HSn.out.grew (by repeat (first | exact Grew.refl _ | assumption | refine Grew.drew ?_ | refine Grew.alloc ?_ _ | refine Grew.setCell ?_ (by (try simp only [World.size_alloc, World.size_drew]); omega) _ | refine Grew.trans ?_ (by assumption))), HTn.out.more (by repeat (first | exact Grew.refl _ | assumption | refine Grew.drew ?_ | refine Grew.alloc ?_ _ | refine Grew.setCell ?_ (by (try simp only [World.size_alloc, World.size_drew]); omega) _ | refine Grew.trans ?_ (by assumption)))⟩
            case measure => simp [intOf]; omega
          · have HPn : Hid (Ph2 W N lab' (D.del (.int .i64 old)) (k + 1) lab2 D2) := .skip HPh2.out hlk (by rw [← HY.out]; omega)
            go_wp2_with fail
            go_roundw
            case rel => exact ⟨k + 1, _, _, by omega, by go_num, HPn.out, HR2.out, HS2.out.mono (by omega), HT2.out⟩
            case measure => simp [intOf]; omega
        · obtain rfl : k = N := by omega
          go_wp2_with fail
          refine bodyPost_end (v := .tuple #[]) (by simp [results, Tryd.results63, go_sem, *]) rfl ⟨⟨lab', lab2, D2, rfl, by rw [← HLN.out]; exact HPh.out, HPh2.out, HR2.out, HS2.out⟩, HT2.out⟩
end Go.Proofs.YtbgbfljbjpbinaaDoor

/- Maps of tiles in memory: a grid and a row of counts; what a world that turned in one block alone keeps. No conditions of its own. -/
import Derived.Test.YtbgbfljbjpbinaaDoorTiles10
namespace Go.Proofs.YtbgbfljbjpbinaaDoor
set_option linter.unusedSimpArgs false
set_option linter.unusedVariables false
open Go.RowKit

/-- w' is w with new blocks, and block C turned: all else that was there is as it was. -/
structure Turn (C : Nat) (w w' : World) : Prop where
  os : w'.os = w.os
  tape : w'.tape = w.tape
  output : w'.output = w.output
  size : w.heap.size ≤ w'.heap.size
  block : ∀ k, k < w.heap.size → k ≠ C → w'.heap[k]? = w.heap[k]?
theorem Turn.refl (C : Nat) (w : World) : Turn C w w := ⟨rfl, rfl, rfl, Nat.le_refl _, fun _ _ _ => rfl⟩
theorem Grew.turn {w w' : World} (h : Grew w w') (C : Nat) : Turn C w w' := ⟨h.below.os, h.below.tape, h.below.output, h.size, fun k hk _ => h.below.block k hk⟩
theorem Turn.trans {C : Nat} {a b c : World} (h : Turn C a b) (k : Turn C b c) : Turn C a c :=
  ⟨k.os.trans h.os, k.tape.trans h.tape, k.output.trans h.output, Nat.le_trans h.size k.size, fun i hi hn => (k.block i (Nat.lt_of_lt_of_le hi h.size) hn).trans (h.block i hi hn)⟩
theorem Turn.more {C : Nat} {a b c : World} (h : Turn C a b) (k : Grew b c) : Turn C a c := h.trans (k.turn C)
theorem Turn.drew {C : Nat} {a w : World} (h : Turn C a w) : Turn C a w.drew := h.more (Grew.refl w).drew
theorem Turn.alloc {C : Nat} {a w : World} (h : Turn C a w) (o : Obj) : Turn C a (w.alloc o) := h.more ((Grew.refl w).alloc o)
theorem Turn.setCell {C : Nat} {a w : World} (h : Turn C a w) {p : Addr} (hp : p.block = C) (u : Value) : Turn C a (w.setCell p u) :=
  ⟨h.os, h.tape, h.output, by simpa using h.size, fun k hk hn => (Below.heap_setCell w p u k (by rw [hp]; exact hn)).trans (h.block k hk hn)⟩
theorem Turn.setNew {C : Nat} {a w : World} (h : Turn C a w) {p : Addr} (hp : a.heap.size ≤ p.block) (u : Value) : Turn C a (w.setCell p u) :=
  ⟨h.os, h.tape, h.output, by simpa using h.size, fun k hk hn => (Below.heap_setCell w p u k (by omega)).trans (h.block k hk hn)⟩
/-- Seen from a world in which block C wasn't yet there. -/
theorem Turn.grew {C : Nat} {a w w' : World} (h : Turn C w w') (g : Grew a w) (hC : a.heap.size ≤ C) : Grew a w' :=
  ⟨h.os.trans g.below.os, h.tape.trans g.below.tape, h.output.trans g.below.output, Nat.le_trans g.size h.size, fun k hk => (h.block k (Nat.lt_of_lt_of_le hk g.size) (by omega)).trans (g.below.block k hk)⟩
theorem Turn.facts {C : Nat} {W w1 : World} (hb : Turn C W w1) :
    (∀ b o, b < W.heap.size → b ≠ C → w1.cell? ⟨b, o, none⟩ = W.cell? ⟨b, o, none⟩) ∧ (∀ b o, b < W.heap.size → b ≠ C → w1.frozen? ⟨b, o, none⟩ = W.frozen? ⟨b, o, none⟩) :=
  ⟨fun b o h hn => World.cell?_of_block (w := W) (hb.block b h hn), fun b o h hn => World.frozen?_of_block (w := W) (hb.block b h hn)⟩

theorem Own.turn {C : Nat} {w w' : World} {B : Nat} {v : Value} {L : List Int} (h : Own w B v L) (g : Turn C w w') (hC : C < B) : Own w' B v L := by
  refine ⟨h.raw.1, ?_⟩
  rcases h.raw.2 with hn | ⟨b, cap, cur, rfl, hb, hgg, rest⟩
  · exact .inl hn
  · refine .inr ⟨b, cap, cur, rfl, hb, ?_, rest⟩
    rw [g.block b (Array.getElem?_eq_some_iff.1 hgg).1 (by omega)]
    exact hgg

theorem NewInts.turn {C : Nat} {w w' : World} {v : Value} {L : List Int} {B : Nat} (h : NewInts w v L B) (g : Turn C w w') (hC : C < B) : NewInts w' v L B := by
  obtain ⟨ao, cap, rfl, h⟩ := h
  exact ⟨ao, cap, rfl, h.imp id fun ⟨bb, e, h0, hb, hc⟩ => ⟨bb, e, h0, by have := g.size; omega, fun k x hx => (g.facts.1 _ _ hb (by omega)).trans (hc k x hx)⟩⟩

/-- A map lies at block P, its N counts at block C: c tells each tile's count. -/
structure MapAt (w : World) (P C N : Nat) (W H S X Y : Int) (c : Nat → Int) : Prop where
  g0 : w.cell? ⟨P, 0, none⟩ = some (.int .i64 W)
  g1 : w.cell? ⟨P, 1, none⟩ = some (.int .i64 H)
  g2 : w.cell? ⟨P, 2, none⟩ = some (.int .i64 S)
  g3 : w.cell? ⟨P, 3, none⟩ = some (.int .i64 X)
  g4 : w.cell? ⟨P, 4, none⟩ = some (.int .i64 Y)
  sl : ∃ K, w.cell? ⟨P, 5, none⟩ = some (.slice (some ⟨C, 0, none⟩) N K)
  cs : ∀ k, k < N → w.cell? ⟨C, k, none⟩ = some (.int .i64 (c k))
  fz : ∀ o, w.frozen? ⟨C, o, none⟩ = false
  ne : P ≠ C
  hP : P < w.heap.size
  hC : C < w.heap.size
theorem MapAt.grew {w w' : World} {P C N : Nat} {W H S X Y : Int} {c : Nat → Int} (h : MapAt w P C N W H S X Y c) (g : Grew w w') : MapAt w' P C N W H S X Y c :=
  ⟨(g.facts.1 _ _ h.hP).trans h.g0, (g.facts.1 _ _ h.hP).trans h.g1, (g.facts.1 _ _ h.hP).trans h.g2, (g.facts.1 _ _ h.hP).trans h.g3, (g.facts.1 _ _ h.hP).trans h.g4, h.sl.imp fun _ e => (g.facts.1 _ _ h.hP).trans e,
    fun k hk => (g.facts.1 _ _ h.hC).trans (h.cs k hk), fun o => (g.facts.2 _ _ h.hC).trans (h.fz o), h.ne, by have := g.size; have := h.hP; omega, by have := g.size; have := h.hC; omega⟩
theorem MapAt.turn {w w' : World} {P C N D : Nat} {W H S X Y : Int} {c : Nat → Int} (h : MapAt w P C N W H S X Y c) (g : Turn D w w') (h1 : P ≠ D) (h2 : C ≠ D) : MapAt w' P C N W H S X Y c :=
  ⟨(g.facts.1 _ _ h.hP h1).trans h.g0, (g.facts.1 _ _ h.hP h1).trans h.g1, (g.facts.1 _ _ h.hP h1).trans h.g2, (g.facts.1 _ _ h.hP h1).trans h.g3, (g.facts.1 _ _ h.hP h1).trans h.g4, h.sl.imp fun _ e => (g.facts.1 _ _ h.hP h1).trans e,
    fun k hk => (g.facts.1 _ _ h.hC h2).trans (h.cs k hk), fun o => (g.facts.2 _ _ h.hC h2).trans (h.fz o), h.ne, by have := g.size; have := h.hP; omega, by have := g.size; have := h.hC; omega⟩
theorem MapAt.set {w : World} {P C N : Nat} {W H S X Y : Int} {c : Nat → Int} (h : MapAt w P C N W H S X Y c) (t : Nat) (ht : t < N) (x : Int) : MapAt (w.setCell ⟨C, t, none⟩ (.int .i64 x)) P C N W H S X Y (fun k => if k = t then x else c k) := by
  have hn : ∀ o, (⟨C, t, none⟩ : Addr) ≠ ⟨P, o, none⟩ := fun o e => h.ne (by simp at e; exact e.1.symm)
  refine ⟨?_, ?_, ?_, ?_, ?_, ?_, fun k hk => ?_, fun o => ?_, h.ne, by simpa using h.hP, by simpa using h.hC⟩
  · exact (World.cell?_setCell_other _ _ _ _ (hn 0)).trans h.g0
  · exact (World.cell?_setCell_other _ _ _ _ (hn 1)).trans h.g1
  · exact (World.cell?_setCell_other _ _ _ _ (hn 2)).trans h.g2
  · exact (World.cell?_setCell_other _ _ _ _ (hn 3)).trans h.g3
  · exact (World.cell?_setCell_other _ _ _ _ (hn 4)).trans h.g4
  · exact h.sl.imp fun _ e => (World.cell?_setCell_other _ _ _ _ (hn 5)).trans e
  · by_cases e : k = t
    · subst e; rw [if_pos rfl]; exact World.cell?_setCell_same _ _ _ (h.cs k hk)
    · rw [if_neg e, World.cell?_setCell_other _ _ _ _ (fun e' => e (congrArg Addr.off e'.symm))]; exact h.cs k hk
  · rw [World.frozen?_setCell]; exact h.fz o
theorem MapAt.congr {w : World} {P C N : Nat} {W H S X Y : Int} {c d : Nat → Int} (h : MapAt w P C N W H S X Y c) (e : ∀ k, k < N → c k = d k) : MapAt w P C N W H S X Y d :=
  ⟨h.g0, h.g1, h.g2, h.g3, h.g4, h.sl, fun k hk => by rw [← e k hk]; exact h.cs k hk, h.fz, h.ne, h.hP, h.hC⟩

theorem Turn.below {C B : Nat} {a w w' : World} (h : Turn C a w) (k : Below B w w') (hB : a.heap.size ≤ B) : Turn C a w' :=
  ⟨k.os.trans h.os, k.tape.trans h.tape, k.output.trans h.output, Nat.le_trans h.size k.size, fun i hi hn => (k.block i (Nat.lt_of_lt_of_le hi hB)).trans (h.block i hi hn)⟩
theorem MapAt.below {w w' : World} {P C N B : Nat} {W H S X Y : Int} {c : Nat → Int} (h : MapAt w P C N W H S X Y c) (k : Below B w w') (h1 : P < B) (h2 : C < B) : MapAt w' P C N W H S X Y c := by
  have q : ∀ o, w'.cell? ⟨P, o, none⟩ = w.cell? ⟨P, o, none⟩ := fun o => k.cell (p := ⟨P, o, none⟩) h1
  have r : ∀ o, w'.cell? ⟨C, o, none⟩ = w.cell? ⟨C, o, none⟩ := fun o => k.cell (p := ⟨C, o, none⟩) h2
  exact ⟨(q _).trans h.g0, (q _).trans h.g1, (q _).trans h.g2, (q _).trans h.g3, (q _).trans h.g4, h.sl.imp fun _ e => (q _).trans e, fun j hj => (r _).trans (h.cs j hj), fun o => (k.frozen (p := ⟨C, o, none⟩) h2).trans (h.fz o), h.ne, by have := k.size; have := h.hP; omega, by have := k.size; have := h.hC; omega⟩
/-- What an append of one integer leaves. -/
theorem Own.nextB {wr w w1 : World} {B : Nat} {v v' : Value} {L : List Int} {x : Int} {o : Obj} (h : Own wr B v L) (hown : w1.ownsRow B 3 1 v' (L.length + 1) (L.map (Value.int .i64) ++ [.int .i64 x])) (hg : (w.alloc o).grownBy w1 v.ownBlock) (g : Grew wr w) (hBr : B ≤ wr.heap.size) :
    Own w1 B v' (L ++ [x]) ∧ Below B wr w1 := by
  refine ⟨Own.step (w := w) (v := v) hown, ?_⟩
  have hs := g.size
  exact Below.grown ((g.alloc o).below.mono hBr) hg (by simp; omega) (fun k hk => (h.raw.lt k hk).1)

/-- The counts when the tiles below m that f holds have one more. -/
def bump (c : Nat → Int) (f : Nat → Bool) (d : Int) (m : Nat) : Nat → Int := fun k => c k + if f k && decide (k < m) then d else 0

theorem passed_prefix {f : Nat → Bool} {m N : Nat} (h : m ≤ N) : ∃ r, passed f N = passed f m ++ r := by
  obtain ⟨d, rfl⟩ := Nat.exists_eq_add_of_le h
  induction d with
  | zero => exact ⟨[], by simp⟩
  | succ d ih =>
    obtain ⟨r, hr⟩ := ih (by omega)
    cases hf : f (m + d)
    · exact ⟨r, by rw [← Nat.add_assoc, passed_miss hf, hr]⟩
    · exact ⟨r ++ [((m + d : Nat) : Int)], by rw [← Nat.add_assoc, passed_hit hf, hr, List.append_assoc]⟩
/-- The element behind the first ones: the next number that passes. -/
theorem passed_next {f : Nat → Bool} {m N : Nat} (hm : m ≤ N) (hi : (passed f m).length < (passed f N).length) :
    ∃ t, m ≤ t ∧ t < N ∧ f t = true ∧ (∀ k, m ≤ k → k < t → f k = false) ∧ (passed f N)[(passed f m).length]? = some (t : Int) ∧ passed f (t + 1) = passed f m ++ [(t : Int)] := by
  induction hd : N - m generalizing m with
  | zero =>
    obtain rfl : m = N := by omega
    omega
  | succ d ih =>
    cases hf : f m
    · have e : passed f (m + 1) = passed f m := passed_miss hf
      obtain ⟨t, h0, h1, h2, h3, h4, h5⟩ := ih (m := m + 1) (by omega) (by rw [e]; exact hi) (by omega)
      rw [e] at h4 h5
      refine ⟨t, by omega, h1, h2, fun k k0 k1 => ?_, h4, h5⟩
      by_cases hk : k = m
      · subst hk; exact hf
      · exact h3 k (by omega) k1
    · have e : passed f (m + 1) = passed f m ++ [(m : Int)] := passed_hit hf
      obtain ⟨r, hr⟩ := passed_prefix (f := f) (show m + 1 ≤ N by omega)
      refine ⟨m, Nat.le_refl _, by omega, hf, fun k k0 k1 => by omega, ?_, e⟩
      rw [hr, e, List.append_assoc]
      simp
theorem passed_end {f : Nat → Bool} {m N : Nat} (hm : m ≤ N) (hi : ¬ (passed f m).length < (passed f N).length) : passed f m = passed f N ∧ ∀ k, m ≤ k → k < N → f k = false := by
  obtain ⟨r, hr⟩ := passed_prefix (f := f) hm
  have h0 : r = [] := by
    apply List.length_eq_zero_iff.1
    have := congrArg List.length hr
    simp at this; omega
  subst h0
  refine ⟨by simpa using hr.symm, fun k k0 k1 => ?_⟩
  cases hf : f k
  · rfl
  · exfalso
    obtain ⟨r1, h1⟩ := passed_prefix (f := f) (show m ≤ k from k0)
    obtain ⟨r2, h2⟩ := passed_prefix (f := f) (show k + 1 ≤ N by omega)
    rw [passed_hit hf, h1] at h2
    rw [h2] at hr
    have := congrArg List.length hr
    simp at this
theorem bump_next {c : Nat → Int} {f : Nat → Bool} {d : Int} {m t : Nat} (h0 : m ≤ t) (hf : f t = true) (h1 : ∀ k, m ≤ k → k < t → f k = false) (k : Nat) : (if k = t then c t + d else bump c f d m k) = bump c f d (t + 1) k := by
  unfold bump
  by_cases e : k = t
  · subst e; rw [if_pos rfl, hf]; simp
  · rw [if_neg e]
    by_cases hk : k < m
    · rw [show decide (k < m) = true by simpa using hk, show decide (k < t + 1) = true by simp; omega]
    · by_cases hk2 : k < t
      · rw [h1 k (by omega) hk2]; rfl
      · rw [show decide (k < m) = false by simpa using hk, show decide (k < t + 1) = false by simp; omega]
theorem bump_at {c : Nat → Int} {f : Nat → Bool} {d : Int} {m t : Nat} (h0 : m ≤ t) : bump c f d m t = c t := by
  unfold bump
  rw [show decide (t < m) = false by simp; omega]; simp
end Go.Proofs.YtbgbfljbjpbinaaDoor

/- A set of tiles by map[int]bool; a row that was built by append, as a list; two regions side by side; all tiles, from somewhere on. No conditions of its own. -/
import Derived.Test.YtbgbfljbjpbinaaDoorReg18
import Derived.Test.YtbgbfljbjpbinaaDoorRMap1
namespace Go.Proofs.YtbgbfljbjpbinaaDoor
set_option linter.unusedSimpArgs false
set_option linter.unusedVariables false
open Go.RowKit Go.Maps

theorem OutAt.list {w : World} {E B : Nat} {v : Value} {L : List Int} (h : OutAt w E B v L) : ∃ g cap, v = .slice (some ⟨g, 0, none⟩) L.length cap ∧ ListAt w g 0 cap L ∧ (g = E ∨ B ≤ g) := by
  obtain ⟨g, cap, rfl, hg, ho⟩ := h
  refine ⟨g, cap, rfl, ?_, hg⟩
  rcases ho.raw.2 with ⟨e, _⟩ | ⟨b, cap', cur, e, hb, hgg, hc, hm, hs, ht⟩
  · cases e
  · simp only [Value.slice.injEq, Option.some.injEq, Addr.mk.injEq, and_true, true_and] at e
    obtain ⟨rfl, rfl⟩ := e
    refine ⟨hc, hm, (Array.getElem?_eq_some_iff.1 hgg).1, fun k x hx => ?_⟩
    have hk : k < L.length := (List.getElem?_eq_some_iff.1 hx).1
    rw [Nat.zero_add, cell_of_row w g k cur 3 (0, 0) hgg]
    have hu : (L.map (Value.int .i64))[k]? = some (.int .i64 x) := by rw [List.getElem?_map, hx]; rfl
    rw [← ht, List.getElem?_take, if_pos (by omega)] at hu
    simpa using hu

/-- The map at block F holds, for each tile, whether it is in the set f. -/
def FirstAt (w : World) (F n : Nat) (D : DataW Unit) (N : Nat) (f : Nat → Bool) : Prop :=
  w.ownsMap Tryd.prog 3 (plainElem Tryd.prog 4) F n D ∧ ∀ t : Nat, t < N → D.atKey (.int .i64 t) (.lit (.bool false)) = .lit (.bool (f t))
theorem FirstAt.start {w : World} {F N : Nat} (h : F = w.heap.size) : FirstAt (w.alloc (.map #[] 0)) F 0 (.map []) N (fun _ => false) := by
  subst h; exact ⟨World.ownsMap_made _ _ _ _, fun _ _ => rfl⟩
theorem FirstAt.lt {w : World} {F n N : Nat} {D : DataW Unit} {f : Nat → Bool} (h : FirstAt w F n D N f) : F < w.heap.size := World.ownsMap.lt h.1
theorem FirstAt.block {w w' : World} {F n N : Nat} {D : DataW Unit} {f : Nat → Bool} (h : FirstAt w F n D N f) (e : w'.heap[F]? = w.heap[F]?) : FirstAt w' F n D N f := by
  obtain ⟨⟨es, clock, hb, rest⟩, hf⟩ := h
  exact ⟨⟨es, clock, e.trans hb, rest⟩, hf⟩
theorem FirstAt.grew {w w' : World} {F n N : Nat} {D : DataW Unit} {f : Nat → Bool} (h : FirstAt w F n D N f) (g : Grew w w') : FirstAt w' F n D N f := h.block (g.below.block F h.lt)
theorem FirstAt.turn2 {w w' : World} {F n N C E : Nat} {D : DataW Unit} {f : Nat → Bool} (h : FirstAt w F n D N f) (g : Turn2 C E w w') (h1 : F ≠ C) (h2 : F ≠ E) : FirstAt w' F n D N f := h.block (g.block F h.lt h1 h2)
set_option maxRecDepth 100000 in
theorem FirstAt.look {w : World} {F n N : Nat} {D : DataW Unit} {f : Nat → Bool} (h : FirstAt w F n D N f) (hN : N ≤ 1024) {t : Nat} (ht : t < N) : (Instr.lookup 62 (.map (some F)) (.int .i64 t) false).run Tryd.prog w = .ok (.bool (f t)) w := by
  obtain ⟨v, ps, hrun, hv⟩ := h.1.lookup (t := 62) (int_keyed Tryd.underlying3) Tryd.underlying62 (z := .bool false) (by rfl) (plainElem_bool Tryd.underlying4 false) (keyOf_int_mk (a := (t : Int)) Tryd.underlying3 (WalkArith.wf_i64 (by omega)))
  rw [h.2 t ht] at hv
  unfold plainElem at hv
  rw [Tryd.underlying4] at hv
  cases v <;> simp at hv
  rw [hrun, hv.1]
theorem FirstAt.mark {w w' : World} {F n N : Nat} {D : DataW Unit} {f : Nat → Bool} (h : FirstAt w F n D N f) {t : Nat} (hown : w'.ownsMap Tryd.prog 3 (plainElem Tryd.prog 4) F (n + 1) (D.put (.int .i64 t) (.lit (.bool true)))) : FirstAt w' F (n + 1) (D.put (.int .i64 t) (.lit (.bool true))) N (fun x => f x || decide (x = t)) := by
  refine ⟨hown, fun u hu => ?_⟩
  by_cases e : u = t
  · subst e
    rw [atKey_put_same h.1.isMap (key_lit _)]; simp
  · rw [atKey_put_other (key_ne e), h.2 u hu]; simp [e]
theorem FirstAt.congr {w : World} {F n N : Nat} {D : DataW Unit} {f g : Nat → Bool} (h : FirstAt w F n D N f) (e : ∀ t, f t = g t) : FirstAt w F n D N g := by
  obtain rfl : f = g := funext e
  exact h

theorem RegAt.turn2 {w w' : World} {P L M N W H C E : Nat} {lab : Nat → Int} (h : RegAt w P L M N W H lab) (g : Turn2 C E w w') (hP : P ≠ C ∧ P ≠ E) (hL : L ≠ C ∧ L ≠ E) : RegAt w' P L M N W H lab := by
  have q : ∀ o, w'.cell? ⟨P, o, none⟩ = w.cell? ⟨P, o, none⟩ := fun o => g.facts.1 _ _ h.hP hP.1 hP.2
  have r : ∀ o, w'.cell? ⟨L, o, none⟩ = w.cell? ⟨L, o, none⟩ := fun o => g.facts.1 _ _ h.hL hL.1 hL.2
  exact ⟨(q _).trans h.r0, (q _).trans h.r1, h.r2.imp fun _ e => (q _).trans e, (q _).trans h.r3, fun j hj => (r _).trans (h.ls j hj), fun o => (g.facts.2 _ _ h.hL hL.1 hL.2).trans (h.fz o), h.ne, h.nm, by have := g.size; have := h.hP; omega, by have := g.size; have := h.hL; omega⟩
theorem RgC.turn2 {w w' : World} {P L M N W H C E : Nat} {fr : Nat → Bool} {lab : Nat → Int} {D : DataW Unit} (h : RgC w P L M N W H fr lab D) (g : Turn2 C E w w') (hP : P ≠ C ∧ P ≠ E) (hL : L ≠ C ∧ L ≠ E) (hM : M ≠ C ∧ M ≠ E) : RgC w' P L M N W H fr lab D :=
  ⟨h.r.turn2 g hP hL, h.s.block (g.block M h.s.lt hM.1 hM.2), h.c, h.z⟩

theorem Grew.reach {a w w' : World} {B : Nat} (g : Grew a w) (h : Below B w w') (hB : a.heap.size ≤ B) : Grew a w' :=
  ⟨h.os.trans g.below.os, h.tape.trans g.below.tape, h.output.trans g.below.output, Nat.le_trans g.size h.size, fun k hk => (h.block k (by omega)).trans (g.below.block k hk)⟩
theorem Conn.monoN {W H N a j : Nat} {fr fr' : Nat → Bool} (h : Conn W N fr a j) (hW : 1 ≤ W) (hN : N = W * H) (ha : a < N) (hm : ∀ k, k < N → fr k = true → fr' k = true) : Conn W N fr' a j := by
  induction h with
  | refl => exact .refl
  | step hc hk hf ih => exact .step ih hk (hm _ (nbr_lt hW hN (hc.lt hW hN ha) hk) hf)
theorem Canon.congrN {W H N : Nat} {fr fr' : Nat → Bool} {lab : Nat → Int} (h : Canon W N fr lab) (hW : 1 ≤ W) (hN : N = W * H) (e : ∀ j, j < N → fr j = fr' j) : Canon W N fr' lab := by
  refine ⟨fun j hj hf => h.nf j hj (by rw [e j hj]; exact hf), fun j hj hf => ?_, h.u⟩
  obtain ⟨m, h1, h2, h3, h4⟩ := h.f j hj (by rw [e j hj]; exact hf)
  exact ⟨m, h1, h2, by rw [← e m (by omega)]; exact h3, h4.monoN hW hN (by omega) fun k hk hf => by rw [← e k hk]; exact hf⟩
theorem RgC.congrN {w : World} {P L M N W H : Nat} {fr fr' : Nat → Bool} {lab : Nat → Int} {D : DataW Unit} (h : RgC w P L M N W H fr lab D) (hW : 1 ≤ W) (hN : N = W * H) (e : ∀ j, j < N → fr j = fr' j) : RgC w P L M N W H fr' lab D := ⟨h.r, h.s, h.c.congrN hW hN e, h.z⟩
/-- Tiles counted from R on: t is the place of x. -/
theorem rot_mod {N R i : Nat} (hR : R < N) (hi : i < N) : ((i + R) % N + (N - R)) % N = i := by
  by_cases h : i + R < N
  · rw [Nat.mod_eq_of_lt h, show i + R + (N - R) = i + N by omega, Nat.add_mod_right, Nat.mod_eq_of_lt hi]
  · rw [show i + R = (i + R - N) + N by omega, Nat.add_mod_right, Nat.mod_eq_of_lt (show i + R - N < N by omega), show i + R - N + (N - R) = i by omega, Nat.mod_eq_of_lt hi]
theorem rot_back {N R x : Nat} (hR : R < N) (hx : x < N) : ((x + (N - R)) % N + R) % N = x := by
  by_cases h : x + (N - R) < N
  · rw [Nat.mod_eq_of_lt h, show x + (N - R) + R = x + N by omega, Nat.add_mod_right, Nat.mod_eq_of_lt hx]
  · rw [show x + (N - R) = (x - R) + N by omega, Nat.add_mod_right, Nat.mod_eq_of_lt (show x - R < N by omega), show x - R + R = x by omega, Nat.mod_eq_of_lt hx]
/-- The first labels of a region as a list. -/
theorem labels_ints {w : World} {D K N : Nat} {lab : Nat → Int} (hD : D < w.heap.size) (hc : ∀ k, k < N → w.cell? ⟨D, k, none⟩ = some (.int .i64 (lab k))) : IntsAt w (.slice (some ⟨D, 0, none⟩) N K) ((List.range N).map lab) := by
  refine ⟨some ⟨D, 0, none⟩, K, by simp, .inr ⟨D, 0, rfl, hD, fun k x hx => ?_⟩⟩
  have hk : k < N := by
    have := (List.getElem?_eq_some_iff.1 hx).1
    simpa using this
  rw [List.getElem?_map, List.getElem?_range hk] at hx
  rw [Nat.zero_add, hc k hk]
  simpa using hx
end Go.Proofs.YtbgbfljbjpbinaaDoor

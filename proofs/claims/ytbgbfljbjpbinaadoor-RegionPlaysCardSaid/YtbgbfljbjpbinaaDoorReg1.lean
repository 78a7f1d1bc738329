/- Regions in memory; the walk of (*region.Regions).next. Conditions: the region's cells. -/
import Derived.Test.YtbgbfljbjpbinaaDoorMap1
import Derived.Test.YtbgbfljbjpbinaaDoorRMap1
import Derived.Deep.LoopGhost
namespace Go.Proofs.YtbgbfljbjpbinaaDoor
set_option linter.unusedSimpArgs false
set_option linter.unusedVariables false
open Go.RowKit

/-- A region lies at block P, its N labels at block L, its sizes in the map at block M. -/
structure RegAt (w : World) (P L M N W H : Nat) (lab : Nat → Int) : Prop where
  r0 : w.cell? ⟨P, 0, none⟩ = some (.int .i64 W)
  r1 : w.cell? ⟨P, 1, none⟩ = some (.int .i64 H)
  r2 : ∃ K, w.cell? ⟨P, 2, none⟩ = some (.slice (some ⟨L, 0, none⟩) N K)
  r3 : w.cell? ⟨P, 3, none⟩ = some (.map (some M))
  ls : ∀ k, k < N → w.cell? ⟨L, k, none⟩ = some (.int .i64 (lab k))
  fz : ∀ o, w.frozen? ⟨L, o, none⟩ = false
  ne : P ≠ L
  nm : M ≠ P ∧ M ≠ L
  hP : P < w.heap.size
  hL : L < w.heap.size
theorem RegAt.grew {w w' : World} {P L M N W H : Nat} {lab : Nat → Int} (h : RegAt w P L M N W H lab) (g : Grew w w') : RegAt w' P L M N W H lab :=
  ⟨(g.facts.1 _ _ h.hP).trans h.r0, (g.facts.1 _ _ h.hP).trans h.r1, h.r2.imp fun _ e => (g.facts.1 _ _ h.hP).trans e, (g.facts.1 _ _ h.hP).trans h.r3, fun k hk => (g.facts.1 _ _ h.hL).trans (h.ls k hk), fun o => (g.facts.2 _ _ h.hL).trans (h.fz o), h.ne, h.nm, by have := g.size; have := h.hP; omega, by have := g.size; have := h.hL; omega⟩
theorem RegAt.turn {w w' : World} {P L M N W H D : Nat} {lab : Nat → Int} (h : RegAt w P L M N W H lab) (g : Turn D w w') (h1 : P ≠ D) (h2 : L ≠ D) : RegAt w' P L M N W H lab :=
  ⟨(g.facts.1 _ _ h.hP h1).trans h.r0, (g.facts.1 _ _ h.hP h1).trans h.r1, h.r2.imp fun _ e => (g.facts.1 _ _ h.hP h1).trans e, (g.facts.1 _ _ h.hP h1).trans h.r3, fun k hk => (g.facts.1 _ _ h.hL h2).trans (h.ls k hk), fun o => (g.facts.2 _ _ h.hL h2).trans (h.fz o), h.ne, h.nm, by have := g.size; have := h.hP; omega, by have := g.size; have := h.hL; omega⟩
theorem RegAt.set {w : World} {P L M N W H : Nat} {lab : Nat → Int} (h : RegAt w P L M N W H lab) (t : Nat) (ht : t < N) (x : Int) : RegAt (w.setCell ⟨L, t, none⟩ (.int .i64 x)) P L M N W H (fun k => if k = t then x else lab k) := by
  have hn : ∀ o, (⟨L, t, none⟩ : Addr) ≠ ⟨P, o, none⟩ := fun o e => h.ne (by simp at e; exact e.1.symm)
  refine ⟨?_, ?_, ?_, ?_, fun k hk => ?_, fun o => ?_, h.ne, h.nm, by simpa using h.hP, by simpa using h.hL⟩
  · exact (World.cell?_setCell_other _ _ _ _ (hn 0)).trans h.r0
  · exact (World.cell?_setCell_other _ _ _ _ (hn 1)).trans h.r1
  · exact h.r2.imp fun _ e => (World.cell?_setCell_other _ _ _ _ (hn 2)).trans e
  · exact (World.cell?_setCell_other _ _ _ _ (hn 3)).trans h.r3
  · by_cases e : k = t
    · subst e; rw [if_pos rfl]; exact World.cell?_setCell_same _ _ _ (h.ls k hk)
    · rw [if_neg e, World.cell?_setCell_other _ _ _ _ (fun e' => e (congrArg Addr.off e'.symm))]; exact h.ls k hk
  · rw [World.frozen?_setCell]; exact h.fz o
theorem RegAt.congr {w : World} {P L M N W H : Nat} {lab d : Nat → Int} (h : RegAt w P L M N W H lab) (e : ∀ k, k < N → lab k = d k) : RegAt w P L M N W H d :=
  ⟨h.r0, h.r1, h.r2, h.r3, fun k hk => by rw [← e k hk]; exact h.ls k hk, h.fz, h.ne, h.nm, h.hP, h.hL⟩
theorem RegAt.below {w w' : World} {P L M N W H B : Nat} {lab : Nat → Int} (h : RegAt w P L M N W H lab) (k : Below B w w') (h1 : P < B) (h2 : L < B) : RegAt w' P L M N W H lab := by
  have q : ∀ o, w'.cell? ⟨P, o, none⟩ = w.cell? ⟨P, o, none⟩ := fun o => k.cell (p := ⟨P, o, none⟩) h1
  have r : ∀ o, w'.cell? ⟨L, o, none⟩ = w.cell? ⟨L, o, none⟩ := fun o => k.cell (p := ⟨L, o, none⟩) h2
  exact ⟨(q _).trans h.r0, (q _).trans h.r1, h.r2.imp fun _ e => (q _).trans e, (q _).trans h.r3, fun j hj => (r _).trans (h.ls j hj), fun o => (k.frozen (p := ⟨L, o, none⟩) h2).trans (h.fz o), h.ne, h.nm, by have := k.size; have := h.hP; omega, by have := k.size; have := h.hL; omega⟩

/-- The tiles next to one, in the code's order. -/
def nbr (W N t : Nat) : List Int :=
  (if W ≤ t then [(t : Int) - W] else []) ++ (if 0 < t % W then [(t : Int) - 1] else []) ++ (if t % W < W - 1 then [(t : Int) + 1] else []) ++ (if t + W < N then [(t : Int) + W] else [])

theorem Own.nextG {a wr wx w1 : World} {B : Nat} {v v' : Value} {L : List Int} {x : Int} (h : Own wr B v L) (hown : w1.ownsRow B 3 1 v' (L.length + 1) (L.map (Value.int .i64) ++ [.int .i64 x])) (hg : wx.grownBy w1 v.ownBlock) (g : Grew wr wx) (ga : Grew a wr) (hB : a.heap.size ≤ B) (hBr : B ≤ wr.heap.size) :
    Own w1 B v' (L ++ [x]) ∧ Grew a w1 ∧ Below B wr w1 := by
  have hs := g.size
  have hb : Below B wr w1 := Below.grown (g.below.mono hBr) hg (by omega) (fun k hk => (h.raw.lt k hk).1)
  exact ⟨Own.step (w := wr) (v := v) hown, ga.below.trans (hb.mono hB), hb⟩

set_option maxRecDepth 100000 in
set_option maxHeartbeats 16000000 in
theorem next_own (P L M N W H t : Nat) (lab : Nat → Int) (w : World) (hR : RegAt w P L M N W H lab) (hW : 1 ≤ W ∧ W ≤ 32) (hN : N ≤ 1024) (ht : t < N) :
    Calls Tryd.prog 75 #[.pointer (some ⟨P, 0, none⟩), .int .i64 t] w fun e w' => (∃ v, e = .returned v ∧ Own w' w.heap.size v (nbr W N t)) ∧ Grew w w' := by
  obtain ⟨c0, _, ⟨K, c2⟩, _, _, _, _, _, hP, _⟩ := hR
  have C0 : Hid (w.cell? ⟨P, 0, none⟩ = some (.int .i64 W)) := c0
  have C2 : Hid (w.cell? ⟨P, 2, none⟩ = some (.slice (some ⟨L, 0, none⟩) N K)) := c2
  obtain ⟨r, hr⟩ : ∃ r, r = t % W := ⟨_, rfl⟩
  have hrW : r < W := by rw [hr]; exact Nat.mod_lt _ (by omega)
  have hrem : (t : Int).tmod (W : Int) = (r : Int) := by rw [Int.tmod_eq_emod_of_nonneg (by omega), hr]; push_cast; rfl
  have hw0 : (W : Int) ≠ 0 := by omega
  have HL : Hid (∀ L1 L2 L3 L4 : List Int, L1 = (if W ≤ t then [(t : Int) - W] else []) → L2 = (if 0 < r then [(t : Int) - 1] else []) → L3 = (if r < W - 1 then [(t : Int) + 1] else []) → L4 = (if t + W < N then [(t : Int) + W] else []) → nbr W N t = (((([] : List Int) ++ L1) ++ L2) ++ L3) ++ L4) := by
    rintro L1 L2 L3 L4 rfl rfl rfl rfl
    rw [hr]; simp [nbr]
  clear hr
  obtain ⟨i0, hi0, hi1, hi2, hi3⟩ := info_parts infoInt
  have HO : Hid (Own w w.heap.size (.slice none 0 0) []) := Own.nil _ _
  have HG : Hid (Grew w w) := Grew.refl _
  go_enter Tryd.func75, Tryd.ntmps75
  by_cases h0 : W ≤ t
  · go_wp2_with (at_builtin; refine wpList_append_own _ rfl _ _ 28 rfl w.heap.size 3 i0 (.int .i64 0) 1 8 Tryd.underlying28 hi0 hi1 hi2 hi3 rfl (by decide) _ _ _ rfl (HO.out.grew (by repeat (first | exact Grew.refl _ | assumption | refine Grew.drew ?_ | refine Grew.alloc ?_ _ | refine Grew.setCell ?_ (by (try simp only [World.size_alloc, World.size_drew]); omega) _ | refine Grew.trans ?_ (by assumption)))).raw ⟨_, 0, none⟩ 1 1 [.int .i64 ((t : Int) - W)] rfl rfl ?c1 ?c2 ?c3 ?c4 ?c5 ?_)
    case c1 =>
      intro j u hj
      match j, hj with
      | 0, hj => simp at hj; subst hj; simp [Addr.add]
    case c2 => intro u hu; simp at hu; subst hu; rfl
    case c3 => simp; unfold maxLen; omega
    case c4 => simp
    case c5 => have := HG.out.size; simp <;> omega
    · intro v1 w1 hown' hgrow _
      obtain ⟨hO1, hG1, hB1⟩ := HO.out.nextG (a := w) hown' hgrow (by repeat (first | exact Grew.refl _ | assumption | refine Grew.drew ?_ | refine Grew.alloc ?_ _ | refine Grew.setCell ?_ (by (try simp only [World.size_alloc, World.size_drew]); omega) _ | refine Grew.trans ?_ (by assumption))) HG.out (Nat.le_refl _) HG.out.size
      have c0 := (hG1.facts.1 P 0 hP).trans C0.out
      have c2 := (hG1.facts.1 P 2 hP).trans C2.out
      have HO : Hid (Own w1 w.heap.size _ _) := hO1
      have HG : Hid (Grew w w1) := hG1
      clear hown' hgrow hO1 hG1 hB1
      by_cases h1 : 0 < r
      · go_wp2_with (at_builtin; refine wpList_append_own _ rfl _ _ 28 rfl w.heap.size 3 i0 (.int .i64 0) 1 8 Tryd.underlying28 hi0 hi1 hi2 hi3 rfl (by decide) _ _ _ rfl (HO.out.grew (by repeat (first | exact Grew.refl _ | assumption | refine Grew.drew ?_ | refine Grew.alloc ?_ _ | refine Grew.setCell ?_ (by (try simp only [World.size_alloc, World.size_drew]); omega) _ | refine Grew.trans ?_ (by assumption)))).raw ⟨_, 0, none⟩ 1 1 [.int .i64 ((t : Int) - 1)] rfl rfl ?c1 ?c2 ?c3 ?c4 ?c5 ?_)
        case c1 =>
          intro j u hj
          match j, hj with
          | 0, hj => simp at hj; subst hj; simp [Addr.add]
        case c2 => intro u hu; simp at hu; subst hu; rfl
        case c3 => simp; unfold maxLen; omega
        case c4 => simp
        case c5 => have := HG.out.size; simp <;> omega
        · intro v2 w2 hown' hgrow _
          obtain ⟨hO1, hG1, hB1⟩ := HO.out.nextG (a := w) hown' hgrow (by repeat (first | exact Grew.refl _ | assumption | refine Grew.drew ?_ | refine Grew.alloc ?_ _ | refine Grew.setCell ?_ (by (try simp only [World.size_alloc, World.size_drew]); omega) _ | refine Grew.trans ?_ (by assumption))) HG.out (Nat.le_refl _) HG.out.size
          have c0 := (hG1.facts.1 P 0 hP).trans C0.out
          have c2 := (hG1.facts.1 P 2 hP).trans C2.out
          have HO : Hid (Own w2 w.heap.size _ _) := hO1
          have HG : Hid (Grew w w2) := hG1
          clear hown' hgrow hO1 hG1 hB1
          by_cases h2 : r < W - 1
          · go_wp2_with fail
            go_region
            go_wp2_with (at_builtin; refine wpList_append_own _ rfl _ _ 28 rfl w.heap.size 3 i0 (.int .i64 0) 1 8 Tryd.underlying28 hi0 hi1 hi2 hi3 rfl (by decide) _ _ _ rfl (HO.out.grew (by repeat (first | exact Grew.refl _ | assumption | refine Grew.drew ?_ | refine Grew.alloc ?_ _ | refine Grew.setCell ?_ (by (try simp only [World.size_alloc, World.size_drew]); omega) _ | refine Grew.trans ?_ (by assumption)))).raw ⟨_, 0, none⟩ 1 1 [.int .i64 ((t : Int) + 1)] rfl rfl ?c1 ?c2 ?c3 ?c4 ?c5 ?_)
            case c1 =>
              intro j u hj
              match j, hj with
              | 0, hj => simp at hj; subst hj; simp [Addr.add]
            case c2 => intro u hu; simp at hu; subst hu; rfl
            case c3 => simp; unfold maxLen; omega
            case c4 => simp
            case c5 => have := HG.out.size; simp <;> omega
            · intro v3 w3 hown' hgrow _
              obtain ⟨hO1, hG1, hB1⟩ := HO.out.nextG (a := w) hown' hgrow (by repeat (first | exact Grew.refl _ | assumption | refine Grew.drew ?_ | refine Grew.alloc ?_ _ | refine Grew.setCell ?_ (by (try simp only [World.size_alloc, World.size_drew]); omega) _ | refine Grew.trans ?_ (by assumption))) HG.out (Nat.le_refl _) HG.out.size
              have c0 := (hG1.facts.1 P 0 hP).trans C0.out
              have c2 := (hG1.facts.1 P 2 hP).trans C2.out
              have HO : Hid (Own w3 w.heap.size _ _) := hO1
              have HG : Hid (Grew w w3) := hG1
              clear hown' hgrow hO1 hG1 hB1
              by_cases h3 : t + W < N
              · go_wp2_with fail
                go_region
                go_wp2_with (at_builtin; refine wpList_append_own _ rfl _ _ 28 rfl w.heap.size 3 i0 (.int .i64 0) 1 8 Tryd.underlying28 hi0 hi1 hi2 hi3 rfl (by decide) _ _ _ rfl (HO.out.grew (by repeat (first | exact Grew.refl _ | assumption | refine Grew.drew ?_ | refine Grew.alloc ?_ _ | refine Grew.setCell ?_ (by (try simp only [World.size_alloc, World.size_drew]); omega) _ | refine Grew.trans ?_ (by assumption)))).raw ⟨_, 0, none⟩ 1 1 [.int .i64 ((t : Int) + W)] rfl rfl ?c1 ?c2 ?c3 ?c4 ?c5 ?_)
                case c1 =>
                  intro j u hj
                  match j, hj with
                  | 0, hj => simp at hj; subst hj; simp [Addr.add]
                case c2 => intro u hu; simp at hu; subst hu; rfl
                case c3 => simp; unfold maxLen; omega
                case c4 => simp
                case c5 => have := HG.out.size; simp <;> omega
                · intro v4 w4 hown' hgrow _
                  obtain ⟨hO1, hG1, hB1⟩ := HO.out.nextG (a := w) hown' hgrow (by repeat (first | exact Grew.refl _ | assumption | refine Grew.drew ?_ | refine Grew.alloc ?_ _ | refine Grew.setCell ?_ (by (try simp only [World.size_alloc, World.size_drew]); omega) _ | refine Grew.trans ?_ (by assumption))) HG.out (Nat.le_refl _) HG.out.size
                  have c0 := (hG1.facts.1 P 0 hP).trans C0.out
                  have c2 := (hG1.facts.1 P 2 hP).trans C2.out
                  have HO : Hid (Own w4 w.heap.size _ _) := hO1
                  have HG : Hid (Grew w w4) := hG1
                  clear hown' hgrow hO1 hG1 hB1
                  go_wp2_with fail
                  go_ret
                  exact ⟨⟨_, rfl, by rw [HL.out _ _ _ _ (if_pos (by omega)).symm (if_pos (by omega)).symm (if_pos (by omega)).symm (if_pos (by omega)).symm]; exact (by first | exact HO.out | simpa using HO.out : Own _ w.heap.size _ _).grew (by repeat (first | exact Grew.refl _ | assumption | refine Grew.drew ?_ | refine Grew.alloc ?_ _ | refine Grew.setCell ?_ (by (try simp only [World.size_alloc, World.size_drew]); omega) _ | refine Grew.trans ?_ (by assumption)))⟩, HG.out.trans (by repeat (first | exact Grew.refl _ | assumption | refine Grew.drew ?_ | refine Grew.alloc ?_ _ | refine Grew.setCell ?_ (by (try simp only [World.size_alloc, World.size_drew]); omega) _ | refine Grew.trans ?_ (by assumption)))⟩
              · go_wp2_with fail
                go_region
                go_wp2_with fail
                go_ret
                exact ⟨⟨_, rfl, by rw [HL.out _ _ _ _ (if_pos (by omega)).symm (if_pos (by omega)).symm (if_pos (by omega)).symm (if_neg (by omega)).symm]; exact (by first | exact HO.out | simpa using HO.out : Own _ w.heap.size _ _).grew (by repeat (first | exact Grew.refl _ | assumption | refine Grew.drew ?_ | refine Grew.alloc ?_ _ | refine Grew.setCell ?_ (by (try simp only [World.size_alloc, World.size_drew]); omega) _ | refine Grew.trans ?_ (by assumption)))⟩, HG.out.trans (by repeat (first | exact Grew.refl _ | assumption | refine Grew.drew ?_ | refine Grew.alloc ?_ _ | refine Grew.setCell ?_ (by (try simp only [World.size_alloc, World.size_drew]); omega) _ | refine Grew.trans ?_ (by assumption)))⟩
          · go_wp2_with fail
            go_region
            by_cases h3 : t + W < N
            · go_wp2_with fail
              go_region
              go_wp2_with (at_builtin; refine wpList_append_own _ rfl _ _ 28 rfl w.heap.size 3 i0 (.int .i64 0) 1 8 Tryd.underlying28 hi0 hi1 hi2 hi3 rfl (by decide) _ _ _ rfl (HO.out.grew (by repeat (first | exact Grew.refl _ | assumption | refine Grew.drew ?_ | refine Grew.alloc ?_ _ | refine Grew.setCell ?_ (by (try simp only [World.size_alloc, World.size_drew]); omega) _ | refine Grew.trans ?_ (by assumption)))).raw ⟨_, 0, none⟩ 1 1 [.int .i64 ((t : Int) + W)] rfl rfl ?c1 ?c2 ?c3 ?c4 ?c5 ?_)
              case c1 =>
                intro j u hj
                match j, hj with
                | 0, hj => simp at hj; subst hj; simp [Addr.add]
              case c2 => intro u hu; simp at hu; subst hu; rfl
              case c3 => simp; unfold maxLen; omega
              case c4 => simp
              case c5 => have := HG.out.size; simp <;> omega
              · intro v4 w4 hown' hgrow _
                obtain ⟨hO1, hG1, hB1⟩ := HO.out.nextG (a := w) hown' hgrow (by repeat (first | exact Grew.refl _ | assumption | refine Grew.drew ?_ | refine Grew.alloc ?_ _ | refine Grew.setCell ?_ (by (try simp only [World.size_alloc, World.size_drew]); omega) _ | refine Grew.trans ?_ (by assumption))) HG.out (Nat.le_refl _) HG.out.size
                have c0 := (hG1.facts.1 P 0 hP).trans C0.out
                have c2 := (hG1.facts.1 P 2 hP).trans C2.out
                have HO : Hid (Own w4 w.heap.size _ _) := hO1
                have HG : Hid (Grew w w4) := hG1
                clear hown' hgrow hO1 hG1 hB1
                go_wp2_with fail
                go_ret
                exact ⟨⟨_, rfl, by rw [HL.out _ _ _ _ (if_pos (by omega)).symm (if_pos (by omega)).symm (if_neg (by omega)).symm (if_pos (by omega)).symm]; exact (by first | exact HO.out | simpa using HO.out : Own _ w.heap.size _ _).grew (by repeat (first | exact Grew.refl _ | assumption | refine Grew.drew ?_ | refine Grew.alloc ?_ _ | refine Grew.setCell ?_ (by (try simp only [World.size_alloc, World.size_drew]); omega) _ | refine Grew.trans ?_ (by assumption)))⟩, HG.out.trans (by repeat (first | exact Grew.refl _ | assumption | refine Grew.drew ?_ | refine Grew.alloc ?_ _ | refine Grew.setCell ?_ (by (try simp only [World.size_alloc, World.size_drew]); omega) _ | refine Grew.trans ?_ (by assumption)))⟩
            · go_wp2_with fail
              go_region
              go_wp2_with fail
              go_ret
              exact ⟨⟨_, rfl, by rw [HL.out _ _ _ _ (if_pos (by omega)).symm (if_pos (by omega)).symm (if_neg (by omega)).symm (if_neg (by omega)).symm]; exact (by first | exact HO.out | simpa using HO.out : Own _ w.heap.size _ _).grew (by repeat (first | exact Grew.refl _ | assumption | refine Grew.drew ?_ | refine Grew.alloc ?_ _ | refine Grew.setCell ?_ (by (try simp only [World.size_alloc, World.size_drew]); omega) _ | refine Grew.trans ?_ (by assumption)))⟩, HG.out.trans (by repeat (first | exact Grew.refl _ | assumption | refine Grew.drew ?_ | refine Grew.alloc ?_ _ | refine Grew.setCell ?_ (by (try simp only [World.size_alloc, World.size_drew]); omega) _ | refine Grew.trans ?_ (by assumption)))⟩
      · by_cases h2 : r < W - 1
        · go_wp2_with fail
          go_region
          go_wp2_with (at_builtin; refine wpList_append_own _ rfl _ _ 28 rfl w.heap.size 3 i0 (.int .i64 0) 1 8 Tryd.underlying28 hi0 hi1 hi2 hi3 rfl (by decide) _ _ _ rfl (HO.out.grew (by repeat (first | exact Grew.refl _ | assumption | refine Grew.drew ?_ | refine Grew.alloc ?_ _ | refine Grew.setCell ?_ (by (try simp only [World.size_alloc, World.size_drew]); omega) _ | refine Grew.trans ?_ (by assumption)))).raw ⟨_, 0, none⟩ 1 1 [.int .i64 ((t : Int) + 1)] rfl rfl ?c1 ?c2 ?c3 ?c4 ?c5 ?_)
          case c1 =>
            intro j u hj
            match j, hj with
            | 0, hj => simp at hj; subst hj; simp [Addr.add]
          case c2 => intro u hu; simp at hu; subst hu; rfl
          case c3 => simp; unfold maxLen; omega
          case c4 => simp
          case c5 => have := HG.out.size; simp <;> omega
          · intro v3 w3 hown' hgrow _
            obtain ⟨hO1, hG1, hB1⟩ := HO.out.nextG (a := w) hown' hgrow (by repeat (first | exact Grew.refl _ | assumption | refine Grew.drew ?_ | refine Grew.alloc ?_ _ | refine Grew.setCell ?_ (by (try simp only [World.size_alloc, World.size_drew]); omega) _ | refine Grew.trans ?_ (by assumption))) HG.out (Nat.le_refl _) HG.out.size
            have c0 := (hG1.facts.1 P 0 hP).trans C0.out
            have c2 := (hG1.facts.1 P 2 hP).trans C2.out
            have HO : Hid (Own w3 w.heap.size _ _) := hO1
            have HG : Hid (Grew w w3) := hG1
            clear hown' hgrow hO1 hG1 hB1
            by_cases h3 : t + W < N
            · go_wp2_with fail
              go_region
              go_wp2_with (at_builtin; refine wpList_append_own _ rfl _ _ 28 rfl w.heap.size 3 i0 (.int .i64 0) 1 8 Tryd.underlying28 hi0 hi1 hi2 hi3 rfl (by decide) _ _ _ rfl (HO.out.grew (by repeat (first | exact Grew.refl _ | assumption | refine Grew.drew ?_ | refine Grew.alloc ?_ _ | refine Grew.setCell ?_ (by (try simp only [World.size_alloc, World.size_drew]); omega) _ | refine Grew.trans ?_ (by assumption)))).raw ⟨_, 0, none⟩ 1 1 [.int .i64 ((t : Int) + W)] rfl rfl ?c1 ?c2 ?c3 ?c4 ?c5 ?_)
              case c1 =>
                intro j u hj
                match j, hj with
                | 0, hj => simp at hj; subst hj; simp [Addr.add]
              case c2 => intro u hu; simp at hu; subst hu; rfl
              case c3 => simp; unfold maxLen; omega
              case c4 => simp
              case c5 => have := HG.out.size; simp <;> omega
              · intro v4 w4 hown' hgrow _
                obtain ⟨hO1, hG1, hB1⟩ := HO.out.nextG (a := w) hown' hgrow (by repeat (first | exact Grew.refl _ | assumption | refine Grew.drew ?_ | refine Grew.alloc ?_ _ | refine Grew.setCell ?_ (by (try simp only [World.size_alloc, World.size_drew]); omega) _ | refine Grew.trans ?_ (by assumption))) HG.out (Nat.le_refl _) HG.out.size
                have c0 := (hG1.facts.1 P 0 hP).trans C0.out
                have c2 := (hG1.facts.1 P 2 hP).trans C2.out
                have HO : Hid (Own w4 w.heap.size _ _) := hO1
                have HG : Hid (Grew w w4) := hG1
                clear hown' hgrow hO1 hG1 hB1
                go_wp2_with fail
                go_ret
                exact ⟨⟨_, rfl, by rw [HL.out _ _ _ _ (if_pos (by omega)).symm (if_neg (by omega)).symm (if_pos (by omega)).symm (if_pos (by omega)).symm]; exact (by first | exact HO.out | simpa using HO.out : Own _ w.heap.size _ _).grew (by repeat (first | exact Grew.refl _ | assumption | refine Grew.drew ?_ | refine Grew.alloc ?_ _ | refine Grew.setCell ?_ (by (try simp only [World.size_alloc, World.size_drew]); omega) _ | refine Grew.trans ?_ (by assumption)))⟩, HG.out.trans (by repeat (first | exact Grew.refl _ | assumption | refine Grew.drew ?_ | refine Grew.alloc ?_ _ | refine Grew.setCell ?_ (by (try simp only [World.size_alloc, World.size_drew]); omega) _ | refine Grew.trans ?_ (by assumption)))⟩
            · go_wp2_with fail
              go_region
              go_wp2_with fail
              go_ret
              exact ⟨⟨_, rfl, by rw [HL.out _ _ _ _ (if_pos (by omega)).symm (if_neg (by omega)).symm (if_pos (by omega)).symm (if_neg (by omega)).symm]; exact (by first | exact HO.out | simpa using HO.out : Own _ w.heap.size _ _).grew (by repeat (first | exact Grew.refl _ | assumption | refine Grew.drew ?_ | refine Grew.alloc ?_ _ | refine Grew.setCell ?_ (by (try simp only [World.size_alloc, World.size_drew]); omega) _ | refine Grew.trans ?_ (by assumption)))⟩, HG.out.trans (by repeat (first | exact Grew.refl _ | assumption | refine Grew.drew ?_ | refine Grew.alloc ?_ _ | refine Grew.setCell ?_ (by (try simp only [World.size_alloc, World.size_drew]); omega) _ | refine Grew.trans ?_ (by assumption)))⟩
        · go_wp2_with fail
          go_region
          by_cases h3 : t + W < N
          · go_wp2_with fail
            go_region
            go_wp2_with (at_builtin; refine wpList_append_own _ rfl _ _ 28 rfl w.heap.size 3 i0 (.int .i64 0) 1 8 Tryd.underlying28 hi0 hi1 hi2 hi3 rfl (by decide) _ _ _ rfl (HO.out.grew (by repeat (first | exact Grew.refl _ | assumption | refine Grew.drew ?_ | refine Grew.alloc ?_ _ | refine Grew.setCell ?_ (by (try simp only [World.size_alloc, World.size_drew]); omega) _ | refine Grew.trans ?_ (by assumption)))).raw ⟨_, 0, none⟩ 1 1 [.int .i64 ((t : Int) + W)] rfl rfl ?c1 ?c2 ?c3 ?c4 ?c5 ?_)
            case c1 =>
              intro j u hj
              match j, hj with
              | 0, hj => simp at hj; subst hj; simp [Addr.add]
            case c2 => intro u hu; simp at hu; subst hu; rfl
            case c3 => simp; unfold maxLen; omega
            case c4 => simp
            case c5 => have := HG.out.size; simp <;> omega
            · intro v4 w4 hown' hgrow _
              obtain ⟨hO1, hG1, hB1⟩ := HO.out.nextG (a := w) hown' hgrow (by repeat (first | exact Grew.refl _ | assumption | refine Grew.drew ?_ | refine Grew.alloc ?_ _ | refine Grew.setCell ?_ (by (try simp only [World.size_alloc, World.size_drew]); omega) _ | refine Grew.trans ?_ (by assumption))) HG.out (Nat.le_refl _) HG.out.size
              have c0 := (hG1.facts.1 P 0 hP).trans C0.out
              have c2 := (hG1.facts.1 P 2 hP).trans C2.out
              have HO : Hid (Own w4 w.heap.size _ _) := hO1
              have HG : Hid (Grew w w4) := hG1
              clear hown' hgrow hO1 hG1 hB1
              go_wp2_with fail
              go_ret
              exact ⟨⟨_, rfl, by rw [HL.out _ _ _ _ (if_pos (by omega)).symm (if_neg (by omega)).symm (if_neg (by omega)).symm (if_pos (by omega)).symm]; exact (by first | exact HO.out | simpa using HO.out : Own _ w.heap.size _ _).grew (by repeat (first | exact Grew.refl _ | assumption | refine Grew.drew ?_ | refine Grew.alloc ?_ _ | refine Grew.setCell ?_ (by (try simp only [World.size_alloc, World.size_drew]); omega) _ | refine Grew.trans ?_ (by assumption)))⟩, HG.out.trans (by repeat (first | exact Grew.refl _ | assumption | refine Grew.drew ?_ | refine Grew.alloc ?_ _ | refine Grew.setCell ?_ (by (try simp only [World.size_alloc, World.size_drew]); omega) _ | refine Grew.trans ?_ (by assumption)))⟩
          · go_wp2_with fail
            go_region
            go_wp2_with fail
            go_ret
            exact ⟨⟨_, rfl, by rw [HL.out _ _ _ _ (if_pos (by omega)).symm (if_neg (by omega)).symm (if_neg (by omega)).symm (if_neg (by omega)).symm]; exact (by first | exact HO.out | simpa using HO.out : Own _ w.heap.size _ _).grew (by repeat (first | exact Grew.refl _ | assumption | refine Grew.drew ?_ | refine Grew.alloc ?_ _ | refine Grew.setCell ?_ (by (try simp only [World.size_alloc, World.size_drew]); omega) _ | refine Grew.trans ?_ (by assumption)))⟩, HG.out.trans (by repeat (first | exact Grew.refl _ | assumption | refine Grew.drew ?_ | refine Grew.alloc ?_ _ | refine Grew.setCell ?_ (by (try simp only [World.size_alloc, World.size_drew]); omega) _ | refine Grew.trans ?_ (by assumption)))⟩
  · by_cases h1 : 0 < r
    · go_wp2_with (at_builtin; refine wpList_append_own _ rfl _ _ 28 rfl w.heap.size 3 i0 (.int .i64 0) 1 8 Tryd.underlying28 hi0 hi1 hi2 hi3 rfl (by decide) _ _ _ rfl (HO.out.grew (by repeat (first | exact Grew.refl _ | assumption | refine Grew.drew ?_ | refine Grew.alloc ?_ _ | refine Grew.setCell ?_ (by (try simp only [World.size_alloc, World.size_drew]); omega) _ | refine Grew.trans ?_ (by assumption)))).raw ⟨_, 0, none⟩ 1 1 [.int .i64 ((t : Int) - 1)] rfl rfl ?c1 ?c2 ?c3 ?c4 ?c5 ?_)
      case c1 =>
        intro j u hj
        match j, hj with
        | 0, hj => simp at hj; subst hj; simp [Addr.add]
      case c2 => intro u hu; simp at hu; subst hu; rfl
      case c3 => simp; unfold maxLen; omega
      case c4 => simp
      case c5 => have := HG.out.size; simp <;> omega
      · intro v2 w2 hown' hgrow _
        obtain ⟨hO1, hG1, hB1⟩ := HO.out.nextG (a := w) hown' hgrow (by repeat (first | exact Grew.refl _ | assumption | refine Grew.drew ?_ | refine Grew.alloc ?_ _ | refine Grew.setCell ?_ (by (try simp only [World.size_alloc, World.size_drew]); omega) _ | refine Grew.trans ?_ (by assumption))) HG.out (Nat.le_refl _) HG.out.size
        have c0 := (hG1.facts.1 P 0 hP).trans C0.out
        have c2 := (hG1.facts.1 P 2 hP).trans C2.out
        have HO : Hid (Own w2 w.heap.size _ _) := hO1
        have HG : Hid (Grew w w2) := hG1
        clear hown' hgrow hO1 hG1 hB1
        by_cases h2 : r < W - 1
        · go_wp2_with fail
          go_region
          go_wp2_with (at_builtin; refine wpList_append_own _ rfl _ _ 28 rfl w.heap.size 3 i0 (.int .i64 0) 1 8 Tryd.underlying28 hi0 hi1 hi2 hi3 rfl (by decide) _ _ _ rfl (HO.out.grew (by repeat (first | exact Grew.refl _ | assumption | refine Grew.drew ?_ | refine Grew.alloc ?_ _ | refine Grew.setCell ?_ (by (try simp only [World.size_alloc, World.size_drew]); omega) _ | refine Grew.trans ?_ (by assumption)))).raw ⟨_, 0, none⟩ 1 1 [.int .i64 ((t : Int) + 1)] rfl rfl ?c1 ?c2 ?c3 ?c4 ?c5 ?_)
          case c1 =>
            intro j u hj
            match j, hj with
            | 0, hj => simp at hj; subst hj; simp [Addr.add]
          case c2 => intro u hu; simp at hu; subst hu; rfl
          case c3 => simp; unfold maxLen; omega
          case c4 => simp
          case c5 => have := HG.out.size; simp <;> omega
          · intro v3 w3 hown' hgrow _
            obtain ⟨hO1, hG1, hB1⟩ := HO.out.nextG (a := w) hown' hgrow (by repeat (first | exact Grew.refl _ | assumption | refine Grew.drew ?_ | refine Grew.alloc ?_ _ | refine Grew.setCell ?_ (by (try simp only [World.size_alloc, World.size_drew]); omega) _ | refine Grew.trans ?_ (by assumption))) HG.out (Nat.le_refl _) HG.out.size
            have c0 := (hG1.facts.1 P 0 hP).trans C0.out
            have c2 := (hG1.facts.1 P 2 hP).trans C2.out
            have HO : Hid (Own w3 w.heap.size _ _) := hO1
            have HG : Hid (Grew w w3) := hG1
            clear hown' hgrow hO1 hG1 hB1
            by_cases h3 : t + W < N
            · go_wp2_with fail
              go_region
              go_wp2_with (at_builtin; refine wpList_append_own _ rfl _ _ 28 rfl w.heap.size 3 i0 (.int .i64 0) 1 8 Tryd.underlying28 hi0 hi1 hi2 hi3 rfl (by decide) _ _ _ rfl (HO.out.grew (by repeat (first | exact Grew.refl _ | assumption | refine Grew.drew ?_ | refine Grew.alloc ?_ _ | refine Grew.setCell ?_ (by (try simp only [World.size_alloc, World.size_drew]); omega) _ | refine Grew.trans ?_ (by assumption)))).raw ⟨_, 0, none⟩ 1 1 [.int .i64 ((t : Int) + W)] rfl rfl ?c1 ?c2 ?c3 ?c4 ?c5 ?_)
              case c1 =>
                intro j u hj
                match j, hj with
                | 0, hj => simp at hj; subst hj; simp [Addr.add]
              case c2 => intro u hu; simp at hu; subst hu; rfl
              case c3 => simp; unfold maxLen; omega
              case c4 => simp
              case c5 => have := HG.out.size; simp <;> omega
              · intro v4 w4 hown' hgrow _
                obtain ⟨hO1, hG1, hB1⟩ := HO.out.nextG (a := w) hown' hgrow (by repeat (first | exact Grew.refl _ | assumption | refine Grew.drew ?_ | refine Grew.alloc ?_ _ | refine Grew.setCell ?_ (by (try simp only [World.size_alloc, World.size_drew]); omega) _ | refine Grew.trans ?_ (by assumption))) HG.out (Nat.le_refl _) HG.out.size
                have c0 := (hG1.facts.1 P 0 hP).trans C0.out
                have c2 := (hG1.facts.1 P 2 hP).trans C2.out
                have HO : Hid (Own w4 w.heap.size _ _) := hO1
                have HG : Hid (Grew w w4) := hG1
                clear hown' hgrow hO1 hG1 hB1
                go_wp2_with fail
                go_ret
                exact ⟨⟨_, rfl, by rw [HL.out _ _ _ _ (if_neg (by omega)).symm (if_pos (by omega)).symm (if_pos (by omega)).symm (if_pos (by omega)).symm]; exact (by first | exact HO.out | simpa using HO.out : Own _ w.heap.size _ _).grew (by repeat (first | exact Grew.refl _ | assumption | refine Grew.drew ?_ | refine Grew.alloc ?_ _ | refine Grew.setCell ?_ (by (try simp only [World.size_alloc, World.size_drew]); omega) _ | refine Grew.trans ?_ (by assumption)))⟩, HG.out.trans (by repeat (first | exact Grew.refl _ | assumption | refine Grew.drew ?_ | refine Grew.alloc ?_ _ | refine Grew.setCell ?_ (by (try simp only [World.size_alloc, World.size_drew]); omega) _ | refine Grew.trans ?_ (by assumption)))⟩
            · go_wp2_with fail
              go_region
              go_wp2_with fail
              go_ret
              exact ⟨⟨_, rfl, by rw [HL.out _ _ _ _ (if_neg (by omega)).symm (if_pos (by omega)).symm (if_pos (by omega)).symm (if_neg (by omega)).symm]; exact (by first | exact HO.out | simpa using HO.out : Own _ w.heap.size _ _).grew (by repeat (first | exact Grew.refl _ | assumption | refine Grew.drew ?_ | refine Grew.alloc ?_ _ | refine Grew.setCell ?_ (by (try simp only [World.size_alloc, World.size_drew]); omega) _ | refine Grew.trans ?_ (by assumption)))⟩, HG.out.trans (by repeat (first | exact Grew.refl _ | assumption | refine Grew.drew ?_ | refine Grew.alloc ?_ _ | refine Grew.setCell ?_ (by (try simp only [World.size_alloc, World.size_drew]); omega) _ | refine Grew.trans ?_ (by assumption)))⟩
        · go_wp2_with fail
          go_region
          by_cases h3 : t + W < N
          · go_wp2_with fail
            go_region
            go_wp2_with (at_builtin; refine wpList_append_own _ rfl _ _ 28 rfl w.heap.size 3 i0 (.int .i64 0) 1 8 Tryd.underlying28 hi0 hi1 hi2 hi3 rfl (by decide) _ _ _ rfl (HO.out.grew (by repeat (first | exact Grew.refl _ | assumption | refine Grew.drew ?_ | refine Grew.alloc ?_ _ | refine Grew.setCell ?_ (by (try simp only [World.size_alloc, World.size_drew]); omega) _ | refine Grew.trans ?_ (by assumption)))).raw ⟨_, 0, none⟩ 1 1 [.int .i64 ((t : Int) + W)] rfl rfl ?c1 ?c2 ?c3 ?c4 ?c5 ?_)
            case c1 =>
              intro j u hj
              match j, hj with
              | 0, hj => simp at hj; subst hj; simp [Addr.add]
            case c2 => intro u hu; simp at hu; subst hu; rfl
            case c3 => simp; unfold maxLen; omega
            case c4 => simp
            case c5 => have := HG.out.size; simp <;> omega
            · intro v4 w4 hown' hgrow _
              obtain ⟨hO1, hG1, hB1⟩ := HO.out.nextG (a := w) hown' hgrow (by repeat (first | exact Grew.refl _ | assumption | refine Grew.drew ?_ | refine Grew.alloc ?_ _ | refine Grew.setCell ?_ (by (try simp only [World.size_alloc, World.size_drew]); omega) _ | refine Grew.trans ?_ (by assumption))) HG.out (Nat.le_refl _) HG.out.size
              have c0 := (hG1.facts.1 P 0 hP).trans C0.out
              have c2 := (hG1.facts.1 P 2 hP).trans C2.out
              have HO : Hid (Own w4 w.heap.size _ _) := hO1
              have HG : Hid (Grew w w4) := hG1
              clear hown' hgrow hO1 hG1 hB1
              go_wp2_with fail
              go_ret
              exact ⟨⟨_, rfl, by rw [HL.out _ _ _ _ (if_neg (by omega)).symm (if_pos (by omega)).symm (if_neg (by omega)).symm (if_pos (by omega)).symm]; exact (by first | exact HO.out | simpa using HO.out : Own _ w.heap.size _ _).grew (by repeat (first | exact Grew.refl _ | assumption | refine Grew.drew ?_ | refine Grew.alloc ?_ _ | refine Grew.setCell ?_ (by (try simp only [World.size_alloc, World.size_drew]); omega) _ | refine Grew.trans ?_ (by assumption)))⟩, HG.out.trans (by repeat (first | exact Grew.refl _ | assumption | refine Grew.drew ?_ | refine Grew.alloc ?_ _ | refine Grew.setCell ?_ (by (try simp only [World.size_alloc, World.size_drew]); omega) _ | refine Grew.trans ?_ (by assumption)))⟩
          · go_wp2_with fail
            go_region
            go_wp2_with fail
            go_ret
            exact ⟨⟨_, rfl, by rw [HL.out _ _ _ _ (if_neg (by omega)).symm (if_pos (by omega)).symm (if_neg (by omega)).symm (if_neg (by omega)).symm]; exact (by first | exact HO.out | simpa using HO.out : Own _ w.heap.size _ _).grew (by repeat (first | exact Grew.refl _ | assumption | refine Grew.drew ?_ | refine Grew.alloc ?_ _ | refine Grew.setCell ?_ (by (try simp only [World.size_alloc, World.size_drew]); omega) _ | refine Grew.trans ?_ (by assumption)))⟩, HG.out.trans (by repeat (first | exact Grew.refl _ | assumption | refine Grew.drew ?_ | refine Grew.alloc ?_ _ | refine Grew.setCell ?_ (by (try simp only [World.size_alloc, World.size_drew]); omega) _ | refine Grew.trans ?_ (by assumption)))⟩
    · by_cases h2 : r < W - 1
      · go_wp2_with fail
        go_region
        go_wp2_with (at_builtin; refine wpList_append_own _ rfl _ _ 28 rfl w.heap.size 3 i0 (.int .i64 0) 1 8 Tryd.underlying28 hi0 hi1 hi2 hi3 rfl (by decide) _ _ _ rfl (HO.out.grew (by repeat (first | exact Grew.refl _ | assumption | refine Grew.drew ?_ | refine Grew.alloc ?_ _ | refine Grew.setCell ?_ (by (try simp only [World.size_alloc, World.size_drew]); omega) _ | refine Grew.trans ?_ (by assumption)))).raw ⟨_, 0, none⟩ 1 1 [.int .i64 ((t : Int) + 1)] rfl rfl ?c1 ?c2 ?c3 ?c4 ?c5 ?_)
        case c1 =>
          intro j u hj
          match j, hj with
          | 0, hj => simp at hj; subst hj; simp [Addr.add]
        case c2 => intro u hu; simp at hu; subst hu; rfl
        case c3 => simp; unfold maxLen; omega
        case c4 => simp
        case c5 => have := HG.out.size; simp <;> omega
        · intro v3 w3 hown' hgrow _
          obtain ⟨hO1, hG1, hB1⟩ := HO.out.nextG (a := w) hown' hgrow (by repeat (first | exact Grew.refl _ | assumption | refine Grew.drew ?_ | refine Grew.alloc ?_ _ | refine Grew.setCell ?_ (by (try simp only [World.size_alloc, World.size_drew]); omega) _ | refine Grew.trans ?_ (by assumption))) HG.out (Nat.le_refl _) HG.out.size
          have c0 := (hG1.facts.1 P 0 hP).trans C0.out
          have c2 := (hG1.facts.1 P 2 hP).trans C2.out
          have HO : Hid (Own w3 w.heap.size _ _) := hO1
          have HG : Hid (Grew w w3) := hG1
          clear hown' hgrow hO1 hG1 hB1
          by_cases h3 : t + W < N
          · go_wp2_with fail
            go_region
            go_wp2_with (at_builtin; refine wpList_append_own _ rfl _ _ 28 rfl w.heap.size 3 i0 (.int .i64 0) 1 8 Tryd.underlying28 hi0 hi1 hi2 hi3 rfl (by decide) _ _ _ rfl (HO.out.grew (by repeat (first | exact Grew.refl _ | assumption | refine Grew.drew ?_ | refine Grew.alloc ?_ _ | refine Grew.setCell ?_ (by (try simp only [World.size_alloc, World.size_drew]); omega) _ | refine Grew.trans ?_ (by assumption)))).raw ⟨_, 0, none⟩ 1 1 [.int .i64 ((t : Int) + W)] rfl rfl ?c1 ?c2 ?c3 ?c4 ?c5 ?_)
            case c1 =>
              intro j u hj
              match j, hj with
              | 0, hj => simp at hj; subst hj; simp [Addr.add]
            case c2 => intro u hu; simp at hu; subst hu; rfl
            case c3 => simp; unfold maxLen; omega
            case c4 => simp
            case c5 => have := HG.out.size; simp <;> omega
            · intro v4 w4 hown' hgrow _
              obtain ⟨hO1, hG1, hB1⟩ := HO.out.nextG (a := w) hown' hgrow (by repeat (first | exact Grew.refl _ | assumption | refine Grew.drew ?_ | refine Grew.alloc ?_ _ | refine Grew.setCell ?_ (by (try simp only [World.size_alloc, World.size_drew]); omega) _ | refine Grew.trans ?_ (by assumption))) HG.out (Nat.le_refl _) HG.out.size
              have c0 := (hG1.facts.1 P 0 hP).trans C0.out
              have c2 := (hG1.facts.1 P 2 hP).trans C2.out
              have HO : Hid (Own w4 w.heap.size _ _) := hO1
              have HG : Hid (Grew w w4) := hG1
              clear hown' hgrow hO1 hG1 hB1
              go_wp2_with fail
              go_ret
              exact ⟨⟨_, rfl, by rw [HL.out _ _ _ _ (if_neg (by omega)).symm (if_neg (by omega)).symm (if_pos (by omega)).symm (if_pos (by omega)).symm]; exact (by first | exact HO.out | simpa using HO.out : Own _ w.heap.size _ _).grew (by repeat (first | exact Grew.refl _ | assumption | refine Grew.drew ?_ | refine Grew.alloc ?_ _ | refine Grew.setCell ?_ (by (try simp only [World.size_alloc, World.size_drew]); omega) _ | refine Grew.trans ?_ (by assumption)))⟩, HG.out.trans (by repeat (first | exact Grew.refl _ | assumption | refine Grew.drew ?_ | refine Grew.alloc ?_ _ | refine Grew.setCell ?_ (by (try simp only [World.size_alloc, World.size_drew]); omega) _ | refine Grew.trans ?_ (by assumption)))⟩
          · go_wp2_with fail
            go_region
            go_wp2_with fail
            go_ret
            exact ⟨⟨_, rfl, by rw [HL.out _ _ _ _ (if_neg (by omega)).symm (if_neg (by omega)).symm (if_pos (by omega)).symm (if_neg (by omega)).symm]; exact (by first | exact HO.out | simpa using HO.out : Own _ w.heap.size _ _).grew (by repeat (first | exact Grew.refl _ | assumption | refine Grew.drew ?_ | refine Grew.alloc ?_ _ | refine Grew.setCell ?_ (by (try simp only [World.size_alloc, World.size_drew]); omega) _ | refine Grew.trans ?_ (by assumption)))⟩, HG.out.trans (by repeat (first | exact Grew.refl _ | assumption | refine Grew.drew ?_ | refine Grew.alloc ?_ _ | refine Grew.setCell ?_ (by (try simp only [World.size_alloc, World.size_drew]); omega) _ | refine Grew.trans ?_ (by assumption)))⟩
      · go_wp2_with fail
        go_region
        by_cases h3 : t + W < N
        · go_wp2_with fail
          go_region
          go_wp2_with (at_builtin; refine wpList_append_own _ rfl _ _ 28 rfl w.heap.size 3 i0 (.int .i64 0) 1 8 Tryd.underlying28 hi0 hi1 hi2 hi3 rfl (by decide) _ _ _ rfl (HO.out.grew (by repeat (first | exact Grew.refl _ | assumption | refine Grew.drew ?_ | refine Grew.alloc ?_ _ | refine Grew.setCell ?_ (by (try simp only [World.size_alloc, World.size_drew]); omega) _ | refine Grew.trans ?_ (by assumption)))).raw ⟨_, 0, none⟩ 1 1 [.int .i64 ((t : Int) + W)] rfl rfl ?c1 ?c2 ?c3 ?c4 ?c5 ?_)
          case c1 =>
            intro j u hj
            match j, hj with
            | 0, hj => simp at hj; subst hj; simp [Addr.add]
          case c2 => intro u hu; simp at hu; subst hu; rfl
          case c3 => simp; unfold maxLen; omega
          case c4 => simp
          case c5 => have := HG.out.size; simp <;> omega
          · intro v4 w4 hown' hgrow _
            obtain ⟨hO1, hG1, hB1⟩ := HO.out.nextG (a := w) hown' hgrow (by repeat (first | exact Grew.refl _ | assumption | refine Grew.drew ?_ | refine Grew.alloc ?_ _ | refine Grew.setCell ?_ (by (try simp only [World.size_alloc, World.size_drew]); omega) _ | refine Grew.trans ?_ (by assumption))) HG.out (Nat.le_refl _) HG.out.size
            have c0 := (hG1.facts.1 P 0 hP).trans C0.out
            have c2 := (hG1.facts.1 P 2 hP).trans C2.out
            have HO : Hid (Own w4 w.heap.size _ _) := hO1
            have HG : Hid (Grew w w4) := hG1
            clear hown' hgrow hO1 hG1 hB1
            go_wp2_with fail
            go_ret
            exact ⟨⟨_, rfl, by rw [HL.out _ _ _ _ (if_neg (by omega)).symm (if_neg (by omega)).symm (if_neg (by omega)).symm (if_pos (by omega)).symm]; exact (by first | exact HO.out | simpa using HO.out : Own _ w.heap.size _ _).grew (by repeat (first | exact Grew.refl _ | assumption | refine Grew.drew ?_ | refine Grew.alloc ?_ _ | refine Grew.setCell ?_ (by (try simp only [World.size_alloc, World.size_drew]); omega) _ | refine Grew.trans ?_ (by assumption)))⟩, HG.out.trans (by repeat (first | exact Grew.refl _ | assumption | refine Grew.drew ?_ | refine Grew.alloc ?_ _ | refine Grew.setCell ?_ (by (try simp only [World.size_alloc, World.size_drew]); omega) _ | refine Grew.trans ?_ (by assumption)))⟩
        · go_wp2_with fail
          go_region
          go_wp2_with fail
          go_ret
          exact ⟨⟨_, rfl, by rw [HL.out _ _ _ _ (if_neg (by omega)).symm (if_neg (by omega)).symm (if_neg (by omega)).symm (if_neg (by omega)).symm]; exact (by first | exact HO.out | simpa using HO.out : Own _ w.heap.size _ _).grew (by repeat (first | exact Grew.refl _ | assumption | refine Grew.drew ?_ | refine Grew.alloc ?_ _ | refine Grew.setCell ?_ (by (try simp only [World.size_alloc, World.size_drew]); omega) _ | refine Grew.trans ?_ (by assumption)))⟩, HG.out.trans (by repeat (first | exact Grew.refl _ | assumption | refine Grew.drew ?_ | refine Grew.alloc ?_ _ | refine Grew.setCell ?_ (by (try simp only [World.size_alloc, World.size_drew]); omega) _ | refine Grew.trans ?_ (by assumption)))⟩
theorem next_any (P L M N W H t : Nat) (lab : Nat → Int) (w : World) (hR : RegAt w P L M N W H lab) (hW : 1 ≤ W ∧ W ≤ 32) (hN : N ≤ 1024) (ht : t < N) :
    Calls Tryd.prog 75 #[.pointer (some ⟨P, 0, none⟩), .int .i64 t] w fun e w' => (∃ v, e = .returned v ∧ NewInts w' v (nbr W N t) w.heap.size) ∧ Grew w w' :=
  (next_own P L M N W H t lab w hR hW hN ht).mono fun e w' ⟨⟨v, he, hv⟩, hg⟩ => ⟨⟨v, he, hv.newInts (Nat.le_refl _)⟩, hg⟩
end Go.Proofs.YtbgbfljbjpbinaaDoor

/- The walk of plane.Join over a list of boxes. Conditions: the list's cells; package api's errors' cells. -/
import Derived.Test.YtlaiikahgioonaaDoorPlane4
import Derived.Deep.LoopGhost
import Derived.Lib.MinMax
namespace Go.Proofs.YtlaiikahgioonaaDoor
set_option linter.unusedSimpArgs false
set_option linter.unusedVariables false
open Go.RowKit

structure B4 where
  x0 : Int
  y0 : Int
  x1 : Int
  y1 : Int
def B4.right (b : B4) : Bool := rightB b.x0 b.y0 b.x1 b.y1
def B4.join (a b : B4) : B4 := ⟨min a.x0 b.x0, min a.y0 b.y0, max a.x1 b.x1, max a.y1 b.y1⟩
def joinL (b : B4) (l : List B4) : B4 := l.foldl B4.join b
def B4.v (b : B4) : Value := .agg #[.int .i64 b.x0, .int .i64 b.y0, .int .i64 b.x1, .int .i64 b.y1]

/-- The boxes of a list lie in memory from ⟨bb, off⟩ on. -/
def BoxesAt (w : World) (bb off : Nat) (l : List B4) : Prop :=
  ∀ (k : Nat) (b : B4), l[k]? = some b → w.cell? ⟨bb, off + k * 4, none⟩ = some (.int .i64 b.x0) ∧ w.cell? ⟨bb, off + k * 4 + 1, none⟩ = some (.int .i64 b.y0) ∧ w.cell? ⟨bb, off + k * 4 + 2, none⟩ = some (.int .i64 b.x1) ∧ w.cell? ⟨bb, off + k * 4 + 3, none⟩ = some (.int .i64 b.y1)

def outK (c : B4) (L : List B4) (k : Nat) : B4 := (L.take k).foldl B4.join c
theorem outK_succ {c b : B4} {L : List B4} {k : Nat} (h : L[k]? = some b) : outK c L (k + 1) = (outK c L k).join b := by
  unfold outK
  rw [List.take_add_one, h]; simp
theorem outK_all (c : B4) (l : List B4) : outK c (c :: l) (c :: l).length = joinL c l := by
  have e : c.join c = c := by cases c; simp [B4.join]
  unfold outK joinL
  rw [List.take_length, List.foldl_cons, e]

set_option maxHeartbeats 4000000 in
theorem join_core (bb off cap n : Nat) (c : B4) (L : List B4) (w : World) (hl : BoxesAt w bb off L) (hc : L[0]? = some c) (hn : L.length = n) (hbb : bb < w.heap.size) (hlen : n ≤ 4398046511104) (hr : ∀ b ∈ L, b.right = true) :
    Calls Tryd.prog 26 #[.slice (some ⟨bb, off, none⟩) n cap] w fun e w' => e = .returned (.tuple #[(outK c L n).v, .nilIface]) ∧ Grew w w' := by
  obtain ⟨k0, k1, k2, k3⟩ := hl 0 c hc
  simp only [Nat.zero_mul, Nat.add_zero] at k0 k1 k2 k3
  have hn0 : 0 < n := by
    rw [← hn]; cases L with
    | nil => simp at hc
    | cons a r => simp
  have hne : ((n : Int) == 0) = false := by rw [beq_eq_false_iff_ne]; omega
  have hpos : (0 : Int) < (n : Int) := by omega
  have H1 : Hid (L.length = n) := hn
  have H2 : Hid (∀ b ∈ L, b.right = true) := hr
  have H3 : Hid (BoxesAt w bb off L) := hl
  clear hn hr hl hc
  go_enter Tryd.func26, Tryd.ntmps26
  go_wp2_with fail
  go_loopw [3, 6, 17] (fun s3 s6 i wr => ∃ k : Nat, k ≤ n ∧ s3 = .nilIface ∧ i = .int .i64 k ∧ wr.cell? ⟨w.heap.size + 1, 0, none⟩ = some (.int .i64 (outK c L k).x0) ∧ wr.cell? ⟨w.heap.size + 1, 1, none⟩ = some (.int .i64 (outK c L k).y0) ∧ wr.cell? ⟨w.heap.size + 1, 2, none⟩ = some (.int .i64 (outK c L k).x1) ∧ wr.cell? ⟨w.heap.size + 1, 3, none⟩ = some (.int .i64 (outK c L k).y1) ∧ (∀ o, wr.frozen? ⟨w.heap.size + 1, o, none⟩ = false) ∧
      wr.cell? ⟨w.heap.size, 0, none⟩ = some (.int .i64 0) ∧ wr.cell? ⟨w.heap.size, 1, none⟩ = some (.int .i64 0) ∧ wr.cell? ⟨w.heap.size, 2, none⟩ = some (.int .i64 0) ∧ wr.cell? ⟨w.heap.size, 3, none⟩ = some (.int .i64 0) ∧ (∀ o, wr.frozen? ⟨w.heap.size, o, none⟩ = false) ∧ Grew w wr) (fun s3 s6 i wr => n - (intOf i).toNat)
  case atStart => exact ⟨0, Nat.zero_le _, rfl, rfl, by simp [outK], by simp [outK], by simp [outK], by simp [outK], fun o => by simp [go_sem], by simp [go_sem], by simp [go_sem], by simp [go_sem], by simp [go_sem], fun o => by simp [go_sem], (by repeat (first | exact Grew.refl _ | assumption | refine Grew.drew ?_ | refine Grew.alloc ?_ _ | refine Grew.setCell ?_ (by (try simp only [World.size_alloc, World.size_drew]); omega) _ | refine Grew.trans ?_ (by assumption)))⟩
  case round =>
    obtain ⟨k, hk, rfl, rfl, o0, o1, o2, o3, of, z0, z1, z2, z3, zf, hG⟩ := hrel
    have hz1 : w.heap.size + 1 < wr.heap.size := World.block_lt_of_cell? _ _ o0
    have hz0 : w.heap.size < wr.heap.size := by omega
    by_cases hlt : k < n
    · obtain ⟨b, hb⟩ : ∃ b, L[k]? = some b := ⟨L[k]'(by rw [H1.out]; exact hlt), by simp⟩
      obtain ⟨j0, j1, j2, j3⟩ := H3.out k b hb
      have e0 : wr.cell? ⟨bb, off + k * 4, none⟩ = some (.int .i64 b.x0) := (hG.facts.1 _ _ hbb).trans j0
      have e1 : wr.cell? ⟨bb, off + k * 4 + 1, none⟩ = some (.int .i64 b.y0) := (hG.facts.1 _ _ hbb).trans j1
      have e2 : wr.cell? ⟨bb, off + k * 4 + 2, none⟩ = some (.int .i64 b.x1) := (hG.facts.1 _ _ hbb).trans j2
      have e3 : wr.cell? ⟨bb, off + k * 4 + 3, none⟩ = some (.int .i64 b.y1) := (hG.facts.1 _ _ hbb).trans j3
      have hrb : rightB b.x0 b.y0 b.x1 b.y1 = true := H2.out b (List.mem_of_getElem? hb)
      have HB : Hid (L[k]? = some b) := hb
      clear j0 j1 j2 j3 hb
      go_wp2_with (go_at_call 15; refine (right_any _ _ _ _ _).mono ?_; rintro e w' ⟨rfl, hb⟩; obtain ⟨hc, hf⟩ := hb.facts; have hz := hb.size; (try simp only [World.size_alloc, World.size_drew] at hz); (try (have hcq := fun o => hc (w.heap.size) o (by (try simp only [World.size_alloc, World.size_drew]); omega))); (try (have hcq := fun o => hc (w.heap.size + 1) o (by (try simp only [World.size_alloc, World.size_drew]); omega))); (try (have hcq := fun o => hc (w.heap.size + 1 + 1) o (by (try simp only [World.size_alloc, World.size_drew]); omega))); (try (have hcq := fun o => hc (w.heap.size + 1 + 1 + 1) o (by (try simp only [World.size_alloc, World.size_drew]); omega))); (try (have hcq := fun o => hc (w1.heap.size) o (by (try simp only [World.size_alloc, World.size_drew]); omega))); (try (have hcq := fun o => hc (w1.heap.size + 1) o (by (try simp only [World.size_alloc, World.size_drew]); omega))); (try (have hcq := fun o => hc (w2.heap.size) o (by (try simp only [World.size_alloc, World.size_drew]); omega))); (try (have hcq := fun o => hc (w2.heap.size + 1) o (by (try simp only [World.size_alloc, World.size_drew]); omega))); (try (have hcq := fun o => hc (0) o (by (try simp only [World.size_alloc, World.size_drew]); omega))); (try (have hcq := fun o => hc (1) o (by (try simp only [World.size_alloc, World.size_drew]); omega))); (try (have hcq := fun o => hc (2) o (by (try simp only [World.size_alloc, World.size_drew]); omega))); (try (have hcq := fun o => hc (wr.heap.size) o (by (try simp only [World.size_alloc, World.size_drew]); omega))); (try (have hq : w.heap.size < w'.heap.size := by omega)); (try (have hq : w.heap.size + 1 < w'.heap.size := by omega)); (try (have hq : w.heap.size + 1 + 1 < w'.heap.size := by omega)); (try (have hq : w.heap.size + 1 + 1 + 1 < w'.heap.size := by omega)); (try (have hq : w1.heap.size < w'.heap.size := by omega)); (try (have hq : w1.heap.size + 1 < w'.heap.size := by omega)); (try (have hq : w2.heap.size < w'.heap.size := by omega)); (try (have hq : w2.heap.size + 1 < w'.heap.size := by omega)); (try (have hq : 0 < w'.heap.size := by omega)); (try (have hq : 1 < w'.heap.size := by omega)); (try (have hq : 2 < w'.heap.size := by omega)); (try (have hq : wr.heap.size < w'.heap.size := by omega)))
      have E := outK_succ (c := c) HB.out
      go_roundw
      case rel => exact ⟨k + 1, by omega, rfl, by go_num, by rw [E]; simp [go_sem, *, B4.join], by rw [E]; simp [go_sem, *, B4.join], by rw [E]; simp [go_sem, *, B4.join], by rw [E]; simp [go_sem, *, B4.join], fun o => by simp [go_sem, *], by simp [go_sem, *], by simp [go_sem, *], by simp [go_sem, *], by simp [go_sem, *], fun o => by simp [go_sem, *], (by repeat (first | exact Grew.refl _ | assumption | refine Grew.drew ?_ | refine Grew.alloc ?_ _ | refine Grew.setCell ?_ (by (try simp only [World.size_alloc, World.size_drew]); omega) _ | refine Grew.trans ?_ (by assumption)))⟩
      case measure => simp [intOf]; omega
    · obtain rfl : k = n := by omega
      go_wp2
      exact bodyPost_ret (v := .tuple #[(outK c L k).v, .nilIface]) (by simp [results, Tryd.results26, go_sem, *, B4.v]) rfl ⟨rfl, (by repeat (first | exact Grew.refl _ | assumption | refine Grew.drew ?_ | refine Grew.alloc ?_ _ | refine Grew.setCell ?_ (by (try simp only [World.size_alloc, World.size_drew]); omega) _ | refine Grew.trans ?_ (by assumption)))⟩

/-- No list, or an empty one. -/
theorem join_none (v : Option Addr) (cap : Nat) (w : World) (a : Addr) (hg : w.cell? ⟨2, 0, none⟩ = some (.iface 80 (.pointer (some a)))) :
    Calls Tryd.prog 26 #[.slice v 0 cap] w fun e w' => e = .returned (.tuple #[.agg #[.int .i64 0, .int .i64 0, .int .i64 0, .int .i64 0], .iface 80 (.pointer (some a))]) ∧ Grew w w' := by
  have hlt := lt_of_cell hg; (try (have hq : 0 < w.heap.size := by omega)); (try (have hq : 1 < w.heap.size := by omega)); (try (have hq : 2 < w.heap.size := by omega))
  go_enter Tryd.func26, Tryd.ntmps26
  go_wp2
  go_region
  go_wp2
  exact bodyPost_ret (v := .tuple #[.agg #[.int .i64 0, .int .i64 0, .int .i64 0, .int .i64 0], .iface 80 (.pointer (some a))]) (by simp [results, Tryd.results26, go_sem, *]) rfl ⟨rfl, (by repeat (first | exact Grew.refl _ | assumption | refine Grew.drew ?_ | refine Grew.alloc ?_ _ | refine Grew.setCell ?_ (by (try simp only [World.size_alloc, World.size_drew]); omega) _ | refine Grew.trans ?_ (by assumption)))⟩

set_option maxHeartbeats 4000000 in
/-- A list in which some box isn't right. -/
theorem join_bad (bb off cap n : Nat) (L : List B4) (w : World) (a : Addr) (hg : w.cell? ⟨1, 0, none⟩ = some (.iface 80 (.pointer (some a)))) (hl : BoxesAt w bb off L) (hn : L.length = n) (hbb : bb < w.heap.size) (hlen : n ≤ 4398046511104) (m : Nat) (hm : m < n) (hr : ∀ k b, k < m → L[k]? = some b → b.right = true) (hb : ∀ b, L[m]? = some b → b.right = false) :
    Calls Tryd.prog 26 #[.slice (some ⟨bb, off, none⟩) n cap] w fun e w' => e = .returned (.tuple #[.agg #[.int .i64 0, .int .i64 0, .int .i64 0, .int .i64 0], .iface 80 (.pointer (some a))]) ∧ Grew w w' := by
  obtain ⟨c, hc⟩ : ∃ c, L[0]? = some c := ⟨L[0]'(by omega), by simp⟩
  obtain ⟨k0, k1, k2, k3⟩ := hl 0 c hc
  simp only [Nat.zero_mul, Nat.add_zero] at k0 k1 k2 k3
  have hn0 : 0 < n := by omega
  have hne : ((n : Int) == 0) = false := by rw [beq_eq_false_iff_ne]; omega
  have hpos : (0 : Int) < (n : Int) := by omega
  have hlg := lt_of_cell hg
  have HG : Hid (w.cell? ⟨1, 0, none⟩ = some (.iface 80 (.pointer (some a)))) := hg
  have H1 : Hid (L.length = n) := hn
  have H2 : Hid (∀ k b, k < m → L[k]? = some b → b.right = true) := hr
  have H4 : Hid (∀ b, L[m]? = some b → b.right = false) := hb
  have H3 : Hid (BoxesAt w bb off L) := hl
  clear hn hr hl hc hb hg
  go_enter Tryd.func26, Tryd.ntmps26
  go_wp2_with fail
  go_loopw [3, 6, 17] (fun s3 s6 i wr => ∃ k : Nat, k ≤ m ∧ s3 = .nilIface ∧ i = .int .i64 k ∧ (∃ u0 u1 u2 u3 : Int, wr.cell? ⟨w.heap.size + 1, 0, none⟩ = some (.int .i64 u0) ∧ wr.cell? ⟨w.heap.size + 1, 1, none⟩ = some (.int .i64 u1) ∧ wr.cell? ⟨w.heap.size + 1, 2, none⟩ = some (.int .i64 u2) ∧ wr.cell? ⟨w.heap.size + 1, 3, none⟩ = some (.int .i64 u3)) ∧ (∀ o, wr.frozen? ⟨w.heap.size + 1, o, none⟩ = false) ∧
      wr.cell? ⟨w.heap.size, 0, none⟩ = some (.int .i64 0) ∧ wr.cell? ⟨w.heap.size, 1, none⟩ = some (.int .i64 0) ∧ wr.cell? ⟨w.heap.size, 2, none⟩ = some (.int .i64 0) ∧ wr.cell? ⟨w.heap.size, 3, none⟩ = some (.int .i64 0) ∧ (∀ o, wr.frozen? ⟨w.heap.size, o, none⟩ = false) ∧ Grew w wr) (fun s3 s6 i wr => n - (intOf i).toNat)
  case atStart => exact ⟨0, Nat.zero_le _, rfl, rfl, ⟨c.x0, c.y0, c.x1, c.y1, by simp [go_sem], by simp [go_sem], by simp [go_sem], by simp [go_sem]⟩, fun o => by simp [go_sem], by simp [go_sem], by simp [go_sem], by simp [go_sem], by simp [go_sem], fun o => by simp [go_sem], (by repeat (first | exact Grew.refl _ | assumption | refine Grew.drew ?_ | refine Grew.alloc ?_ _ | refine Grew.setCell ?_ (by (try simp only [World.size_alloc, World.size_drew]); omega) _ | refine Grew.trans ?_ (by assumption)))⟩
  case round =>
    obtain ⟨k, hk, rfl, rfl, ⟨u0, u1, u2, u3, o0, o1, o2, o3⟩, of, z0, z1, z2, z3, zf, hG⟩ := hrel
    have hz1 : w.heap.size + 1 < wr.heap.size := World.block_lt_of_cell? _ _ o0
    have hz0 : w.heap.size < wr.heap.size := by omega
    have hlt : k < n := by omega
    obtain ⟨b, hb⟩ : ∃ b, L[k]? = some b := ⟨L[k]'(by rw [H1.out]; exact hlt), by simp⟩
    obtain ⟨j0, j1, j2, j3⟩ := H3.out k b hb
    have e0 : wr.cell? ⟨bb, off + k * 4, none⟩ = some (.int .i64 b.x0) := (hG.facts.1 _ _ hbb).trans j0
    have e1 : wr.cell? ⟨bb, off + k * 4 + 1, none⟩ = some (.int .i64 b.y0) := (hG.facts.1 _ _ hbb).trans j1
    have e2 : wr.cell? ⟨bb, off + k * 4 + 2, none⟩ = some (.int .i64 b.x1) := (hG.facts.1 _ _ hbb).trans j2
    have e3 : wr.cell? ⟨bb, off + k * 4 + 3, none⟩ = some (.int .i64 b.y1) := (hG.facts.1 _ _ hbb).trans j3
    have hgr : wr.cell? ⟨1, 0, none⟩ = some (.iface 80 (.pointer (some a))) := (hG.facts.1 _ _ hlg).trans HG.out
    have q0 : 1 < wr.heap.size := by omega
    have q1 : 0 < wr.heap.size := by omega
    clear j0 j1 j2 j3
    by_cases hkm : k < m
    · have hrb : rightB b.x0 b.y0 b.x1 b.y1 = true := H2.out k b hkm hb
      clear hb
      go_wp2_with (go_at_call 15; refine (right_any _ _ _ _ _).mono ?_; rintro e w' ⟨rfl, hb⟩; obtain ⟨hc, hf⟩ := hb.facts; have hz := hb.size; (try simp only [World.size_alloc, World.size_drew] at hz); (try (have hcq := fun o => hc (w.heap.size) o (by (try simp only [World.size_alloc, World.size_drew]); omega))); (try (have hcq := fun o => hc (w.heap.size + 1) o (by (try simp only [World.size_alloc, World.size_drew]); omega))); (try (have hcq := fun o => hc (w.heap.size + 1 + 1) o (by (try simp only [World.size_alloc, World.size_drew]); omega))); (try (have hcq := fun o => hc (w.heap.size + 1 + 1 + 1) o (by (try simp only [World.size_alloc, World.size_drew]); omega))); (try (have hcq := fun o => hc (w1.heap.size) o (by (try simp only [World.size_alloc, World.size_drew]); omega))); (try (have hcq := fun o => hc (w1.heap.size + 1) o (by (try simp only [World.size_alloc, World.size_drew]); omega))); (try (have hcq := fun o => hc (w2.heap.size) o (by (try simp only [World.size_alloc, World.size_drew]); omega))); (try (have hcq := fun o => hc (w2.heap.size + 1) o (by (try simp only [World.size_alloc, World.size_drew]); omega))); (try (have hcq := fun o => hc (0) o (by (try simp only [World.size_alloc, World.size_drew]); omega))); (try (have hcq := fun o => hc (1) o (by (try simp only [World.size_alloc, World.size_drew]); omega))); (try (have hcq := fun o => hc (2) o (by (try simp only [World.size_alloc, World.size_drew]); omega))); (try (have hcq := fun o => hc (wr.heap.size) o (by (try simp only [World.size_alloc, World.size_drew]); omega))); (try (have hq : w.heap.size < w'.heap.size := by omega)); (try (have hq : w.heap.size + 1 < w'.heap.size := by omega)); (try (have hq : w.heap.size + 1 + 1 < w'.heap.size := by omega)); (try (have hq : w.heap.size + 1 + 1 + 1 < w'.heap.size := by omega)); (try (have hq : w1.heap.size < w'.heap.size := by omega)); (try (have hq : w1.heap.size + 1 < w'.heap.size := by omega)); (try (have hq : w2.heap.size < w'.heap.size := by omega)); (try (have hq : w2.heap.size + 1 < w'.heap.size := by omega)); (try (have hq : 0 < w'.heap.size := by omega)); (try (have hq : 1 < w'.heap.size := by omega)); (try (have hq : 2 < w'.heap.size := by omega)); (try (have hq : wr.heap.size < w'.heap.size := by omega)))
      go_roundw
      case rel => exact ⟨k + 1, by omega, rfl, by go_num, ⟨min u0 b.x0, min u1 b.y0, max u2 b.x1, max u3 b.y1, by simp [go_sem, *], by simp [go_sem, *], by simp [go_sem, *], by simp [go_sem, *]⟩, fun o => by simp [go_sem, *], by simp [go_sem, *], by simp [go_sem, *], by simp [go_sem, *], by simp [go_sem, *], fun o => by simp [go_sem, *], (by repeat (first | exact Grew.refl _ | assumption | refine Grew.drew ?_ | refine Grew.alloc ?_ _ | refine Grew.setCell ?_ (by (try simp only [World.size_alloc, World.size_drew]); omega) _ | refine Grew.trans ?_ (by assumption)))⟩
      case measure => simp [intOf]; omega
    · obtain rfl : k = m := by omega
      have hrb : rightB b.x0 b.y0 b.x1 b.y1 = false := H4.out b hb
      clear hb
      go_wp2_with (go_at_call 15; refine (right_any _ _ _ _ _).mono ?_; rintro e w' ⟨rfl, hb⟩; obtain ⟨hc, hf⟩ := hb.facts; have hz := hb.size; (try simp only [World.size_alloc, World.size_drew] at hz); (try (have hcq := fun o => hc (w.heap.size) o (by (try simp only [World.size_alloc, World.size_drew]); omega))); (try (have hcq := fun o => hc (w.heap.size + 1) o (by (try simp only [World.size_alloc, World.size_drew]); omega))); (try (have hcq := fun o => hc (w.heap.size + 1 + 1) o (by (try simp only [World.size_alloc, World.size_drew]); omega))); (try (have hcq := fun o => hc (w.heap.size + 1 + 1 + 1) o (by (try simp only [World.size_alloc, World.size_drew]); omega))); (try (have hcq := fun o => hc (w1.heap.size) o (by (try simp only [World.size_alloc, World.size_drew]); omega))); (try (have hcq := fun o => hc (w1.heap.size + 1) o (by (try simp only [World.size_alloc, World.size_drew]); omega))); (try (have hcq := fun o => hc (w2.heap.size) o (by (try simp only [World.size_alloc, World.size_drew]); omega))); (try (have hcq := fun o => hc (w2.heap.size + 1) o (by (try simp only [World.size_alloc, World.size_drew]); omega))); (try (have hcq := fun o => hc (0) o (by (try simp only [World.size_alloc, World.size_drew]); omega))); (try (have hcq := fun o => hc (1) o (by (try simp only [World.size_alloc, World.size_drew]); omega))); (try (have hcq := fun o => hc (2) o (by (try simp only [World.size_alloc, World.size_drew]); omega))); (try (have hcq := fun o => hc (wr.heap.size) o (by (try simp only [World.size_alloc, World.size_drew]); omega))); (try (have hq : w.heap.size < w'.heap.size := by omega)); (try (have hq : w.heap.size + 1 < w'.heap.size := by omega)); (try (have hq : w.heap.size + 1 + 1 < w'.heap.size := by omega)); (try (have hq : w.heap.size + 1 + 1 + 1 < w'.heap.size := by omega)); (try (have hq : w1.heap.size < w'.heap.size := by omega)); (try (have hq : w1.heap.size + 1 < w'.heap.size := by omega)); (try (have hq : w2.heap.size < w'.heap.size := by omega)); (try (have hq : w2.heap.size + 1 < w'.heap.size := by omega)); (try (have hq : 0 < w'.heap.size := by omega)); (try (have hq : 1 < w'.heap.size := by omega)); (try (have hq : 2 < w'.heap.size := by omega)); (try (have hq : wr.heap.size < w'.heap.size := by omega)))
      go_region
      go_wp2
      exact bodyPost_ret (v := .tuple #[.agg #[.int .i64 0, .int .i64 0, .int .i64 0, .int .i64 0], .iface 80 (.pointer (some a))]) (by simp [results, Tryd.results26, go_sem, *]) rfl ⟨rfl, (by repeat (first | exact Grew.refl _ | assumption | refine Grew.drew ?_ | refine Grew.alloc ?_ _ | refine Grew.setCell ?_ (by (try simp only [World.size_alloc, World.size_drew]); omega) _ | refine Grew.trans ?_ (by assumption)))⟩
end Go.Proofs.YtlaiikahgioonaaDoor

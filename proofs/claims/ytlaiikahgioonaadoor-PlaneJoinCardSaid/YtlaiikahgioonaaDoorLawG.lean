/- The walk of the law PlaneJoin: it answers true. Conditions: the list's cells; package api's errors' cells. -/
import Derived.Test.YtlaiikahgioonaaDoorLawF
import Derived.Test.YtlaiikahgioonaaDoorNum
import Derived.Deep.LoopGhost
import Derived.Deep.DeepCutAuto
namespace Go.Proofs.YtlaiikahgioonaaDoor
set_option linter.unusedSimpArgs false
set_option linter.unusedVariables false
open Go.RowKit

/-! ### what the least box is -/
theorem min_or (a b c : Int) (h : min a b = c) : a = c ∨ b = c := by omega
theorem max_or (a b c : Int) (h : max a b = c) : a = c ∨ b = c := by omega
theorem join_le {o a r : B4} (h : (o.join a).x0 ≥ r.x0 ∧ (o.join a).y0 ≥ r.y0 ∧ r.x1 ≥ (o.join a).x1 ∧ r.y1 ≥ (o.join a).y1) : (r.x0 ≤ o.x0 ∧ r.y0 ≤ o.y0 ∧ o.x1 ≤ r.x1 ∧ o.y1 ≤ r.y1) ∧ (r.x0 ≤ a.x0 ∧ r.y0 ≤ a.y0 ∧ a.x1 ≤ r.x1 ∧ a.y1 ≤ r.y1) := by
  simp only [B4.join] at h; omega
theorem foldl_join (o : B4) (l : List B4) : ∀ r, l.foldl B4.join o = r →
    (r.x0 ≤ o.x0 ∧ r.y0 ≤ o.y0 ∧ o.x1 ≤ r.x1 ∧ o.y1 ≤ r.y1) ∧ (∀ b ∈ l, r.x0 ≤ b.x0 ∧ r.y0 ≤ b.y0 ∧ b.x1 ≤ r.x1 ∧ b.y1 ≤ r.y1) ∧
    (o.x0 = r.x0 ∨ ∃ b ∈ l, b.x0 = r.x0) ∧ (o.y0 = r.y0 ∨ ∃ b ∈ l, b.y0 = r.y0) ∧ (o.x1 = r.x1 ∨ ∃ b ∈ l, b.x1 = r.x1) ∧ (o.y1 = r.y1 ∨ ∃ b ∈ l, b.y1 = r.y1) := by
  induction l generalizing o with
  | nil => intro r h; subst h; exact ⟨by simp, by simp, .inl rfl, .inl rfl, .inl rfl, .inl rfl⟩
  | cons a l ih =>
    intro r h
    obtain ⟨h1, h2, h3, h4, h5, h6⟩ := ih (o.join a) r h
    obtain ⟨g1, g2⟩ := join_le h1
    refine ⟨g1, fun b hb => ?_, ?_, ?_, ?_, ?_⟩
    · rcases List.mem_cons.1 hb with rfl | hb
      · exact g2
      · exact h2 b hb
    · rcases h3 with h | ⟨b, hb, h⟩
      · rcases min_or _ _ _ h with h | h
        · exact .inl h
        · exact .inr ⟨a, List.mem_cons_self .., h⟩
      · exact .inr ⟨b, List.mem_cons_of_mem _ hb, h⟩
    · rcases h4 with h | ⟨b, hb, h⟩
      · rcases min_or _ _ _ h with h | h
        · exact .inl h
        · exact .inr ⟨a, List.mem_cons_self .., h⟩
      · exact .inr ⟨b, List.mem_cons_of_mem _ hb, h⟩
    · rcases h5 with h | ⟨b, hb, h⟩
      · rcases max_or _ _ _ h with h | h
        · exact .inl h
        · exact .inr ⟨a, List.mem_cons_self .., h⟩
      · exact .inr ⟨b, List.mem_cons_of_mem _ hb, h⟩
    · rcases h6 with h | ⟨b, hb, h⟩
      · rcases max_or _ _ _ h with h | h
        · exact .inl h
        · exact .inr ⟨a, List.mem_cons_self .., h⟩
      · exact .inr ⟨b, List.mem_cons_of_mem _ hb, h⟩

theorem join_facts {c : B4} {L : List B4} {n : Nat} {r : B4} (hc : L[0]? = some c) (hn : L.length = n) (hr : ∀ b ∈ L, b.right = true) (h : outK c L n = r) :
    (∀ b ∈ L, insideB b.x0 b.y0 b.x1 b.y1 r.x0 r.y0 r.x1 r.y1 = true) ∧ (∃ b ∈ L, b.x0 = r.x0) ∧ (∃ b ∈ L, b.y0 = r.y0) ∧ (∃ b ∈ L, b.x1 = r.x1) ∧ (∃ b ∈ L, b.y1 = r.y1) := by
  unfold outK at h
  rw [← hn, List.take_length] at h
  have hcl : c ∈ L := List.mem_of_getElem? hc
  obtain ⟨h1, h2, h3, h4, h5, h6⟩ := foldl_join c L r h
  have ex : ∀ (f : B4 → Int), (f c = f r ∨ ∃ b ∈ L, f b = f r) → ∃ b ∈ L, f b = f r := fun f h => h.elim (fun h => ⟨c, hcl, h⟩) id
  have hx0 := ex B4.x0 h3
  have hy0 := ex B4.y0 h4
  have hx1 := ex B4.x1 h5
  have hy1 := ex B4.y1 h6
  have rr : rightB r.x0 r.y0 r.x1 r.y1 = true := by
    obtain ⟨b0, m0, e0⟩ := hx0
    obtain ⟨b1, m1, e1⟩ := hy0
    obtain ⟨b2, m2, e2⟩ := hx1
    obtain ⟨b3, m3, e3⟩ := hy1
    have q0 := (rightB_iff _ _ _ _).1 (hr b0 m0)
    have q1 := (rightB_iff _ _ _ _).1 (hr b1 m1)
    have q2 := (rightB_iff _ _ _ _).1 (hr b2 m2)
    have q3 := (rightB_iff _ _ _ _).1 (hr b3 m3)
    have q4 := h2 b0 m0
    have q5 := h2 b1 m1
    rw [rightB_iff]
    clear ex h1 h2 h3 h4 h5 h6 h hr
    omega
  refine ⟨fun b hb => (insideB_iff _ _ _ _ _ _ _ _).2 ⟨hr b hb, rr, h2 b hb⟩, hx0, hy0, hx1, hy1⟩

/-- Has one of the first k boxes that side? -/
def sideK (f : B4 → Int) (v : Int) (L : List B4) (k : Nat) : Bool := (L.take k).any fun b => f b == v
theorem sideK_succ {f : B4 → Int} {v : Int} {L : List B4} {k : Nat} {b : B4} (h : L[k]? = some b) : sideK f v L (k + 1) = (sideK f v L k || f b == v) := by
  unfold sideK; rw [List.take_add_one, h]; simp
theorem sideK_all {f : B4 → Int} {v : Int} {L : List B4} {n : Nat} (hn : L.length = n) (h : ∃ b ∈ L, f b = v) : sideK f v L n = true := by
  unfold sideK; rw [← hn, List.take_length, List.any_eq_true]
  obtain ⟨b, hb, e⟩ := h
  exact ⟨b, hb, by simp [e]⟩

/-- A list of more than 200 boxes. -/
theorem planeJoin_long (v : Option Addr) (n cap : Nat) (w : World) (h : 200 < n) (hn : n ≤ 9223372036854775807) :
    Calls Tryd.prog 13 #[.slice v n cap] w fun e w' => e = .returned (.bool true) ∧ Grew w w' := by
  go_enter Tryd.func13, Tryd.ntmps13
  go_wp2_with (go_at_call 14; refine (alive_any _).mono ?_; rintro e w' ⟨rfl, hb⟩; obtain ⟨hc, hf⟩ := hb.facts; have hz := hb.size; (try simp only [World.size_alloc, World.size_drew] at hz); (try (have hcq := fun o => hc (w.heap.size) o (by (try simp only [World.size_alloc, World.size_drew]); omega))); (try (have hcq := fun o => hc (w.heap.size + 1) o (by (try simp only [World.size_alloc, World.size_drew]); omega))); (try (have hcq := fun o => hc (w.heap.size + 1 + 1) o (by (try simp only [World.size_alloc, World.size_drew]); omega))); (try (have hcq := fun o => hc (w.heap.size + 1 + 1 + 1) o (by (try simp only [World.size_alloc, World.size_drew]); omega))); (try (have hcq := fun o => hc (w1.heap.size) o (by (try simp only [World.size_alloc, World.size_drew]); omega))); (try (have hcq := fun o => hc (w1.heap.size + 1) o (by (try simp only [World.size_alloc, World.size_drew]); omega))); (try (have hcq := fun o => hc (w2.heap.size) o (by (try simp only [World.size_alloc, World.size_drew]); omega))); (try (have hcq := fun o => hc (w2.heap.size + 1) o (by (try simp only [World.size_alloc, World.size_drew]); omega))); (try (have hcq := fun o => hc (0) o (by (try simp only [World.size_alloc, World.size_drew]); omega))); (try (have hcq := fun o => hc (1) o (by (try simp only [World.size_alloc, World.size_drew]); omega))); (try (have hcq := fun o => hc (2) o (by (try simp only [World.size_alloc, World.size_drew]); omega))); (try (have hcq := fun o => hc (wr.heap.size) o (by (try simp only [World.size_alloc, World.size_drew]); omega))); (try (have hq : w.heap.size < w'.heap.size := by omega)); (try (have hq : w.heap.size + 1 < w'.heap.size := by omega)); (try (have hq : w.heap.size + 1 + 1 < w'.heap.size := by omega)); (try (have hq : w.heap.size + 1 + 1 + 1 < w'.heap.size := by omega)); (try (have hq : w1.heap.size < w'.heap.size := by omega)); (try (have hq : w1.heap.size + 1 < w'.heap.size := by omega)); (try (have hq : w2.heap.size < w'.heap.size := by omega)); (try (have hq : w2.heap.size + 1 < w'.heap.size := by omega)); (try (have hq : 0 < w'.heap.size := by omega)); (try (have hq : 1 < w'.heap.size := by omega)); (try (have hq : 2 < w'.heap.size := by omega)); (try (have hq : wr.heap.size < w'.heap.size := by omega)))
  go_ret
  exact ⟨rfl, (by repeat (first | exact Grew.refl _ | assumption | refine Grew.drew ?_ | refine Grew.alloc ?_ _ | refine Grew.setCell ?_ (by (try simp only [World.size_alloc, World.size_drew]); omega) _ | refine Grew.trans ?_ (by assumption)))⟩

/-- No box. -/
theorem planeJoin_none (v : Option Addr) (cap : Nat) (w : World) (ad : Nat → Addr) (hE : Errs w ad) :
    Calls Tryd.prog 13 #[.slice v 0 cap] w fun e w' => e = .returned (.bool true) ∧ Grew w w' := by
  go_enter Tryd.func13, Tryd.ntmps13
  go_wp2_with (first | (go_at_call 14; refine (alive_any _).mono ?_; rintro e w' ⟨rfl, hb⟩; obtain ⟨hc, hf⟩ := hb.facts; have hz := hb.size; (try simp only [World.size_alloc, World.size_drew] at hz); (try (have hcq := fun o => hc (w.heap.size) o (by (try simp only [World.size_alloc, World.size_drew]); omega))); (try (have hcq := fun o => hc (w.heap.size + 1) o (by (try simp only [World.size_alloc, World.size_drew]); omega))); (try (have hcq := fun o => hc (w.heap.size + 1 + 1) o (by (try simp only [World.size_alloc, World.size_drew]); omega))); (try (have hcq := fun o => hc (w.heap.size + 1 + 1 + 1) o (by (try simp only [World.size_alloc, World.size_drew]); omega))); (try (have hcq := fun o => hc (w1.heap.size) o (by (try simp only [World.size_alloc, World.size_drew]); omega))); (try (have hcq := fun o => hc (w1.heap.size + 1) o (by (try simp only [World.size_alloc, World.size_drew]); omega))); (try (have hcq := fun o => hc (w2.heap.size) o (by (try simp only [World.size_alloc, World.size_drew]); omega))); (try (have hcq := fun o => hc (w2.heap.size + 1) o (by (try simp only [World.size_alloc, World.size_drew]); omega))); (try (have hcq := fun o => hc (0) o (by (try simp only [World.size_alloc, World.size_drew]); omega))); (try (have hcq := fun o => hc (1) o (by (try simp only [World.size_alloc, World.size_drew]); omega))); (try (have hcq := fun o => hc (2) o (by (try simp only [World.size_alloc, World.size_drew]); omega))); (try (have hcq := fun o => hc (wr.heap.size) o (by (try simp only [World.size_alloc, World.size_drew]); omega))); (try (have hq : w.heap.size < w'.heap.size := by omega)); (try (have hq : w.heap.size + 1 < w'.heap.size := by omega)); (try (have hq : w.heap.size + 1 + 1 < w'.heap.size := by omega)); (try (have hq : w.heap.size + 1 + 1 + 1 < w'.heap.size := by omega)); (try (have hq : w1.heap.size < w'.heap.size := by omega)); (try (have hq : w1.heap.size + 1 < w'.heap.size := by omega)); (try (have hq : w2.heap.size < w'.heap.size := by omega)); (try (have hq : w2.heap.size + 1 < w'.heap.size := by omega)); (try (have hq : 0 < w'.heap.size := by omega)); (try (have hq : 1 < w'.heap.size := by omega)); (try (have hq : 2 < w'.heap.size := by omega)); (try (have hq : wr.heap.size < w'.heap.size := by omega))) | (go_at_call 26; refine (join_none _ _ _ (ad 2) ((hE.grew (by first | (simp [*]; done) | repeat (first | exact Grew.refl _ | assumption | refine Grew.drew ?_ | refine Grew.alloc ?_ _ | refine Grew.setCell ?_ (by (try simp only [World.size_alloc, World.size_drew]); omega) _ | refine Grew.trans ?_ (by assumption)))).cell _ (by decide))).mono ?_; rintro e w2 ⟨rfl, hb⟩; obtain ⟨hc, hf⟩ := hb.facts; have hz := hb.size; (try simp only [World.size_alloc, World.size_drew] at hz); (try (have hcq := fun o => hc (w.heap.size) o (by (try simp only [World.size_alloc, World.size_drew]); omega))); (try (have hcq := fun o => hc (w.heap.size + 1) o (by (try simp only [World.size_alloc, World.size_drew]); omega))); (try (have hcq := fun o => hc (w.heap.size + 1 + 1) o (by (try simp only [World.size_alloc, World.size_drew]); omega))); (try (have hcq := fun o => hc (w.heap.size + 1 + 1 + 1) o (by (try simp only [World.size_alloc, World.size_drew]); omega))); (try (have hcq := fun o => hc (w1.heap.size) o (by (try simp only [World.size_alloc, World.size_drew]); omega))); (try (have hcq := fun o => hc (w1.heap.size + 1) o (by (try simp only [World.size_alloc, World.size_drew]); omega))); (try (have hcq := fun o => hc (w2.heap.size) o (by (try simp only [World.size_alloc, World.size_drew]); omega))); (try (have hcq := fun o => hc (w2.heap.size + 1) o (by (try simp only [World.size_alloc, World.size_drew]); omega))); (try (have hcq := fun o => hc (0) o (by (try simp only [World.size_alloc, World.size_drew]); omega))); (try (have hcq := fun o => hc (1) o (by (try simp only [World.size_alloc, World.size_drew]); omega))); (try (have hcq := fun o => hc (2) o (by (try simp only [World.size_alloc, World.size_drew]); omega))); (try (have hcq := fun o => hc (wr.heap.size) o (by (try simp only [World.size_alloc, World.size_drew]); omega))); (try (have hq : w.heap.size < w2.heap.size := by omega)); (try (have hq : w.heap.size + 1 < w2.heap.size := by omega)); (try (have hq : w.heap.size + 1 + 1 < w2.heap.size := by omega)); (try (have hq : w.heap.size + 1 + 1 + 1 < w2.heap.size := by omega)); (try (have hq : w1.heap.size < w2.heap.size := by omega)); (try (have hq : w1.heap.size + 1 < w2.heap.size := by omega)); (try (have hq : w2.heap.size < w2.heap.size := by omega)); (try (have hq : w2.heap.size + 1 < w2.heap.size := by omega)); (try (have hq : 0 < w2.heap.size := by omega)); (try (have hq : 1 < w2.heap.size := by omega)); (try (have hq : 2 < w2.heap.size := by omega)); (try (have hq : wr.heap.size < w2.heap.size := by omega))) | (go_at_call 29; refine (num_None _ ad (hE.grew (by first | (simp [*]; done) | repeat (first | exact Grew.refl _ | assumption | refine Grew.drew ?_ | refine Grew.alloc ?_ _ | refine Grew.setCell ?_ (by (try simp only [World.size_alloc, World.size_drew]); omega) _ | refine Grew.trans ?_ (by assumption))))).mono ?_; rintro e w' ⟨rfl, hb⟩; obtain ⟨hc, hf⟩ := hb.facts; have hz := hb.size; (try simp only [World.size_alloc, World.size_drew] at hz); (try (have hcq := fun o => hc (w.heap.size) o (by (try simp only [World.size_alloc, World.size_drew]); omega))); (try (have hcq := fun o => hc (w.heap.size + 1) o (by (try simp only [World.size_alloc, World.size_drew]); omega))); (try (have hcq := fun o => hc (w.heap.size + 1 + 1) o (by (try simp only [World.size_alloc, World.size_drew]); omega))); (try (have hcq := fun o => hc (w.heap.size + 1 + 1 + 1) o (by (try simp only [World.size_alloc, World.size_drew]); omega))); (try (have hcq := fun o => hc (w1.heap.size) o (by (try simp only [World.size_alloc, World.size_drew]); omega))); (try (have hcq := fun o => hc (w1.heap.size + 1) o (by (try simp only [World.size_alloc, World.size_drew]); omega))); (try (have hcq := fun o => hc (w2.heap.size) o (by (try simp only [World.size_alloc, World.size_drew]); omega))); (try (have hcq := fun o => hc (w2.heap.size + 1) o (by (try simp only [World.size_alloc, World.size_drew]); omega))); (try (have hcq := fun o => hc (0) o (by (try simp only [World.size_alloc, World.size_drew]); omega))); (try (have hcq := fun o => hc (1) o (by (try simp only [World.size_alloc, World.size_drew]); omega))); (try (have hcq := fun o => hc (2) o (by (try simp only [World.size_alloc, World.size_drew]); omega))); (try (have hcq := fun o => hc (wr.heap.size) o (by (try simp only [World.size_alloc, World.size_drew]); omega))); (try (have hq : w.heap.size < w'.heap.size := by omega)); (try (have hq : w.heap.size + 1 < w'.heap.size := by omega)); (try (have hq : w.heap.size + 1 + 1 < w'.heap.size := by omega)); (try (have hq : w.heap.size + 1 + 1 + 1 < w'.heap.size := by omega)); (try (have hq : w1.heap.size < w'.heap.size := by omega)); (try (have hq : w1.heap.size + 1 < w'.heap.size := by omega)); (try (have hq : w2.heap.size < w'.heap.size := by omega)); (try (have hq : w2.heap.size + 1 < w'.heap.size := by omega)); (try (have hq : 0 < w'.heap.size := by omega)); (try (have hq : 1 < w'.heap.size := by omega)); (try (have hq : 2 < w'.heap.size := by omega)); (try (have hq : wr.heap.size < w'.heap.size := by omega))))
  go_ret
  exact ⟨rfl, (by repeat (first | exact Grew.refl _ | assumption | refine Grew.drew ?_ | refine Grew.alloc ?_ _ | refine Grew.setCell ?_ (by (try simp only [World.size_alloc, World.size_drew]); omega) _ | refine Grew.trans ?_ (by assumption)))⟩

/-- The joined box r lies at block B, four bools at block T, all else is as it was. -/
structure JS (B T : Nat) (r : B4) (σ0 σ1 σ2 σ3 : Bool) (w wx : World) : Prop where
  z0 : wx.cell? ⟨B, 0, none⟩ = some (.int .i64 r.x0)
  z1 : wx.cell? ⟨B, 1, none⟩ = some (.int .i64 r.y0)
  z2 : wx.cell? ⟨B, 2, none⟩ = some (.int .i64 r.x1)
  z3 : wx.cell? ⟨B, 3, none⟩ = some (.int .i64 r.y1)
  s0 : wx.cell? ⟨T, 0, none⟩ = some (.bool σ0)
  s1 : wx.cell? ⟨T, 1, none⟩ = some (.bool σ1)
  s2 : wx.cell? ⟨T, 2, none⟩ = some (.bool σ2)
  s3 : wx.cell? ⟨T, 3, none⟩ = some (.bool σ3)
  f : ∀ o, wx.frozen? ⟨T, o, none⟩ = false
  g : Grew w wx
structure BS (C : Nat) (b : B4) (wx : World) : Prop where
  x0 : wx.cell? ⟨C, 0, none⟩ = some (.int .i64 b.x0)
  y0 : wx.cell? ⟨C, 1, none⟩ = some (.int .i64 b.y0)
  x1 : wx.cell? ⟨C, 2, none⟩ = some (.int .i64 b.x1)
  y1 : wx.cell? ⟨C, 3, none⟩ = some (.int .i64 b.y1)

theorem eq_sides (w : World) : (Go.binOp .eql 56 (.agg #[.bool true, .bool true, .bool true, .bool true]) (.agg #[.bool true, .bool true, .bool true, .bool true])).run Tryd.prog w = .ok (.bool true) w := by kernel_rfl

set_option maxRecDepth 100000 in
set_option maxHeartbeats 8000000 in
theorem planeJoin_right (bb off cap n : Nat) (c r : B4) (L : List B4) (w : World) (hl : BoxesAt w bb off L) (hc : L[0]? = some c) (hn : L.length = n) (hbb : bb < w.heap.size) (hlen : n ≤ 200) (hr : ∀ b ∈ L, b.right = true) (ho : outK c L n = r) :
    Calls Tryd.prog 13 #[.slice (some ⟨bb, off, none⟩) n cap] w fun e w' => e = .returned (.bool true) ∧ Grew w w' := by
  obtain ⟨f0, f1, f2, f3, f4⟩ := join_facts hc hn hr ho
  have S0 : Hid (sideK B4.x0 r.x0 L n = true) := sideK_all hn f1
  have S1 : Hid (sideK B4.y0 r.y0 L n = true) := sideK_all hn f2
  have S2 : Hid (sideK B4.x1 r.x1 L n = true) := sideK_all hn f3
  have S3 : Hid (sideK B4.y1 r.y1 L n = true) := sideK_all hn f4
  have F : Hid (∀ b ∈ L, insideB b.x0 b.y0 b.x1 b.y1 r.x0 r.y0 r.x1 r.y1 = true) := f0
  have hn0 : 0 < n := by
    rw [← hn]; cases L with
    | nil => simp at hc
    | cons a r => simp
  have hne : ((n : Int) == 0) = false := by rw [beq_eq_false_iff_ne]; omega
  have hj : Hid (∀ w1, Grew w w1 → Calls Tryd.prog 26 #[.slice (some ⟨bb, off, none⟩) n cap] w1 fun e w' => e = .returned (.tuple #[.agg #[.int .i64 r.x0, .int .i64 r.y0, .int .i64 r.x1, .int .i64 r.y1], .nilIface]) ∧ Grew w1 w') := by
    intro w1 h
    have hl1 : BoxesAt w1 bb off L := fun k b hb => by
      obtain ⟨j0, j1, j2, j3⟩ := hl k b hb
      exact ⟨(h.facts.1 _ _ hbb).trans j0, (h.facts.1 _ _ hbb).trans j1, (h.facts.1 _ _ hbb).trans j2, (h.facts.1 _ _ hbb).trans j3⟩
    have := join_core bb off cap n c L w1 hl1 hc hn (by have := h.size; omega) (by omega) hr
    rw [ho] at this
    exact this
  have H1 : Hid (L.length = n) := hn
  have H2 : Hid (∀ b ∈ L, b.right = true) := hr
  have H3 : Hid (BoxesAt w bb off L) := hl
  clear hn hr hl hc ho f0 f1 f2 f3 f4
  go_enter Tryd.func13, Tryd.ntmps13
  go_wp2_with (first | (go_at_call 14; refine (alive_any _).mono ?_; rintro e w' ⟨rfl, hb⟩; obtain ⟨hc, hf⟩ := hb.facts; have hz := hb.size; (try simp only [World.size_alloc, World.size_drew] at hz); (try (have hcq := fun o => hc (w.heap.size) o (by (try simp only [World.size_alloc, World.size_drew]); omega))); (try (have hcq := fun o => hc (w.heap.size + 1) o (by (try simp only [World.size_alloc, World.size_drew]); omega))); (try (have hcq := fun o => hc (w.heap.size + 1 + 1) o (by (try simp only [World.size_alloc, World.size_drew]); omega))); (try (have hcq := fun o => hc (w.heap.size + 1 + 1 + 1) o (by (try simp only [World.size_alloc, World.size_drew]); omega))); (try (have hcq := fun o => hc (w1.heap.size) o (by (try simp only [World.size_alloc, World.size_drew]); omega))); (try (have hcq := fun o => hc (w1.heap.size + 1) o (by (try simp only [World.size_alloc, World.size_drew]); omega))); (try (have hcq := fun o => hc (w2.heap.size) o (by (try simp only [World.size_alloc, World.size_drew]); omega))); (try (have hcq := fun o => hc (w2.heap.size + 1) o (by (try simp only [World.size_alloc, World.size_drew]); omega))); (try (have hcq := fun o => hc (0) o (by (try simp only [World.size_alloc, World.size_drew]); omega))); (try (have hcq := fun o => hc (1) o (by (try simp only [World.size_alloc, World.size_drew]); omega))); (try (have hcq := fun o => hc (2) o (by (try simp only [World.size_alloc, World.size_drew]); omega))); (try (have hcq := fun o => hc (wr.heap.size) o (by (try simp only [World.size_alloc, World.size_drew]); omega))); (try (have hq : w.heap.size < w'.heap.size := by omega)); (try (have hq : w.heap.size + 1 < w'.heap.size := by omega)); (try (have hq : w.heap.size + 1 + 1 < w'.heap.size := by omega)); (try (have hq : w.heap.size + 1 + 1 + 1 < w'.heap.size := by omega)); (try (have hq : w1.heap.size < w'.heap.size := by omega)); (try (have hq : w1.heap.size + 1 < w'.heap.size := by omega)); (try (have hq : w2.heap.size < w'.heap.size := by omega)); (try (have hq : w2.heap.size + 1 < w'.heap.size := by omega)); (try (have hq : 0 < w'.heap.size := by omega)); (try (have hq : 1 < w'.heap.size := by omega)); (try (have hq : 2 < w'.heap.size := by omega)); (try (have hq : wr.heap.size < w'.heap.size := by omega))) | (go_at_call 26; refine (hj.out _ (by first | (simp [*]; done) | repeat (first | exact Grew.refl _ | assumption | refine Grew.drew ?_ | refine Grew.alloc ?_ _ | refine Grew.setCell ?_ (by (try simp only [World.size_alloc, World.size_drew]); omega) _ | refine Grew.trans ?_ (by assumption)))).mono ?_; rintro e w2 ⟨rfl, hb⟩; obtain ⟨hc, hf⟩ := hb.facts; have hz := hb.size; (try simp only [World.size_alloc, World.size_drew] at hz); (try (have hcq := fun o => hc (w.heap.size) o (by (try simp only [World.size_alloc, World.size_drew]); omega))); (try (have hcq := fun o => hc (w.heap.size + 1) o (by (try simp only [World.size_alloc, World.size_drew]); omega))); (try (have hcq := fun o => hc (w.heap.size + 1 + 1) o (by (try simp only [World.size_alloc, World.size_drew]); omega))); (try (have hcq := fun o => hc (w.heap.size + 1 + 1 + 1) o (by (try simp only [World.size_alloc, World.size_drew]); omega))); (try (have hcq := fun o => hc (w1.heap.size) o (by (try simp only [World.size_alloc, World.size_drew]); omega))); (try (have hcq := fun o => hc (w1.heap.size + 1) o (by (try simp only [World.size_alloc, World.size_drew]); omega))); (try (have hcq := fun o => hc (w2.heap.size) o (by (try simp only [World.size_alloc, World.size_drew]); omega))); (try (have hcq := fun o => hc (w2.heap.size + 1) o (by (try simp only [World.size_alloc, World.size_drew]); omega))); (try (have hcq := fun o => hc (0) o (by (try simp only [World.size_alloc, World.size_drew]); omega))); (try (have hcq := fun o => hc (1) o (by (try simp only [World.size_alloc, World.size_drew]); omega))); (try (have hcq := fun o => hc (2) o (by (try simp only [World.size_alloc, World.size_drew]); omega))); (try (have hcq := fun o => hc (wr.heap.size) o (by (try simp only [World.size_alloc, World.size_drew]); omega))); (try (have hq : w.heap.size < w2.heap.size := by omega)); (try (have hq : w.heap.size + 1 < w2.heap.size := by omega)); (try (have hq : w.heap.size + 1 + 1 < w2.heap.size := by omega)); (try (have hq : w.heap.size + 1 + 1 + 1 < w2.heap.size := by omega)); (try (have hq : w1.heap.size < w2.heap.size := by omega)); (try (have hq : w1.heap.size + 1 < w2.heap.size := by omega)); (try (have hq : w2.heap.size < w2.heap.size := by omega)); (try (have hq : w2.heap.size + 1 < w2.heap.size := by omega)); (try (have hq : 0 < w2.heap.size := by omega)); (try (have hq : 1 < w2.heap.size := by omega)); (try (have hq : 2 < w2.heap.size := by omega)); (try (have hq : wr.heap.size < w2.heap.size := by omega))))
  have hzA := hb.size
  have hGw : Grew w w2 := (by repeat (first | exact Grew.refl _ | assumption | refine Grew.drew ?_ | refine Grew.alloc ?_ _ | refine Grew.setCell ?_ (by (try simp only [World.size_alloc, World.size_drew]); omega) _ | refine Grew.trans ?_ (by assumption)))
  have hzB := hGw.size
  go_loopw [5, 8, 35] (fun s5 s8 i wr => ∃ k : Nat, k ≤ n ∧ s5 = .bool true ∧ i = .int .i64 k ∧ JS w2.heap.size (w2.heap.size + 1) r (sideK B4.x0 r.x0 L k) (sideK B4.y0 r.y0 L k) (sideK B4.x1 r.x1 L k) (sideK B4.y1 r.y1 L k) w wr) (fun s5 s8 i wr => n - (intOf i).toNat)
  case atStart => exact ⟨0, Nat.zero_le _, rfl, rfl, ⟨by simp [go_sem], by simp [go_sem], by simp [go_sem], by simp [go_sem], by simp [sideK], by simp [sideK], by simp [sideK], by simp [sideK], fun o => by simp [go_sem], (by repeat (first | exact Grew.refl _ | assumption | refine Grew.drew ?_ | refine Grew.alloc ?_ _ | refine Grew.setCell ?_ (by (try simp only [World.size_alloc, World.size_drew]); omega) _ | refine Grew.trans ?_ (by assumption)))⟩⟩
  case round =>
    obtain ⟨k, hk, rfl, rfl, hJ⟩ := hrel
    obtain ⟨z0, z1, z2, z3, s0, s1, s2, s3, sf, hG⟩ := hJ
    have hz1 : w2.heap.size + 1 < wr.heap.size := World.block_lt_of_cell? _ _ s0
    have hz0 : w2.heap.size < wr.heap.size := by omega
    by_cases hlt : k < n
    · obtain ⟨b, hb⟩ : ∃ b, L[k]? = some b := ⟨L[k]'(by rw [H1.out]; exact hlt), by simp⟩
      obtain ⟨j0, j1, j2, j3⟩ := H3.out k b hb
      have e0 : wr.cell? ⟨bb, off + k * 4, none⟩ = some (.int .i64 b.x0) := (hG.facts.1 _ _ hbb).trans j0
      have e1 : wr.cell? ⟨bb, off + k * 4 + 1, none⟩ = some (.int .i64 b.y0) := (hG.facts.1 _ _ hbb).trans j1
      have e2 : wr.cell? ⟨bb, off + k * 4 + 2, none⟩ = some (.int .i64 b.x1) := (hG.facts.1 _ _ hbb).trans j2
      have e3 : wr.cell? ⟨bb, off + k * 4 + 3, none⟩ = some (.int .i64 b.y1) := (hG.facts.1 _ _ hbb).trans j3
      have hrb : rightB b.x0 b.y0 b.x1 b.y1 = true := H2.out b (List.mem_of_getElem? hb)
      have E0 : Hid (sideK B4.x0 r.x0 L (k + 1) = (sideK B4.x0 r.x0 L k || b.x0 == r.x0)) := sideK_succ hb
      have E1 : Hid (sideK B4.y0 r.y0 L (k + 1) = (sideK B4.y0 r.y0 L k || b.y0 == r.y0)) := sideK_succ hb
      have E2 : Hid (sideK B4.x1 r.x1 L (k + 1) = (sideK B4.x1 r.x1 L k || b.x1 == r.x1)) := sideK_succ hb
      have E3 : Hid (sideK B4.y1 r.y1 L (k + 1) = (sideK B4.y1 r.y1 L k || b.y1 == r.y1)) := sideK_succ hb
      clear j0 j1 j2 j3 hb
      go_upto_region 13 with fail
      go_cut [5] (fun s5 wx => s5 = .bool true ∧ JS w2.heap.size (w2.heap.size + 1) r (sideK B4.x0 r.x0 L k) (sideK B4.y0 r.y0 L k) (sideK B4.x1 r.x1 L k) (sideK B4.y1 r.y1 L k) w wx ∧ BS wr.heap.size b wx)
      case first =>
        go_wp2_with (go_at_call 15; refine (right_any _ _ _ _ _).mono ?_; rintro e w' ⟨rfl, hb⟩; obtain ⟨hc, hf⟩ := hb.facts; have hz := hb.size; (try simp only [World.size_alloc, World.size_drew] at hz); (try (have hcq := fun o => hc (w.heap.size) o (by (try simp only [World.size_alloc, World.size_drew]); omega))); (try (have hcq := fun o => hc (w.heap.size + 1) o (by (try simp only [World.size_alloc, World.size_drew]); omega))); (try (have hcq := fun o => hc (w.heap.size + 1 + 1) o (by (try simp only [World.size_alloc, World.size_drew]); omega))); (try (have hcq := fun o => hc (w.heap.size + 1 + 1 + 1) o (by (try simp only [World.size_alloc, World.size_drew]); omega))); (try (have hcq := fun o => hc (w1.heap.size) o (by (try simp only [World.size_alloc, World.size_drew]); omega))); (try (have hcq := fun o => hc (w1.heap.size + 1) o (by (try simp only [World.size_alloc, World.size_drew]); omega))); (try (have hcq := fun o => hc (w2.heap.size) o (by (try simp only [World.size_alloc, World.size_drew]); omega))); (try (have hcq := fun o => hc (w2.heap.size + 1) o (by (try simp only [World.size_alloc, World.size_drew]); omega))); (try (have hcq := fun o => hc (0) o (by (try simp only [World.size_alloc, World.size_drew]); omega))); (try (have hcq := fun o => hc (1) o (by (try simp only [World.size_alloc, World.size_drew]); omega))); (try (have hcq := fun o => hc (2) o (by (try simp only [World.size_alloc, World.size_drew]); omega))); (try (have hcq := fun o => hc (wr.heap.size) o (by (try simp only [World.size_alloc, World.size_drew]); omega))); (try (have hq : w.heap.size < w'.heap.size := by omega)); (try (have hq : w.heap.size + 1 < w'.heap.size := by omega)); (try (have hq : w.heap.size + 1 + 1 < w'.heap.size := by omega)); (try (have hq : w.heap.size + 1 + 1 + 1 < w'.heap.size := by omega)); (try (have hq : w1.heap.size < w'.heap.size := by omega)); (try (have hq : w1.heap.size + 1 < w'.heap.size := by omega)); (try (have hq : w2.heap.size < w'.heap.size := by omega)); (try (have hq : w2.heap.size + 1 < w'.heap.size := by omega)); (try (have hq : 0 < w'.heap.size := by omega)); (try (have hq : 1 < w'.heap.size := by omega)); (try (have hq : 2 < w'.heap.size := by omega)); (try (have hq : wr.heap.size < w'.heap.size := by omega)))
        go_meet
        exact ⟨rfl, ⟨by simp [go_sem, *], by simp [go_sem, *], by simp [go_sem, *], by simp [go_sem, *], by simp [go_sem, *], by simp [go_sem, *], by simp [go_sem, *], by simp [go_sem, *], fun o => by simp [go_sem, *], (by repeat (first | exact Grew.refl _ | assumption | refine Grew.drew ?_ | refine Grew.alloc ?_ _ | refine Grew.setCell ?_ (by (try simp only [World.size_alloc, World.size_drew]); omega) _ | refine Grew.trans ?_ (by assumption)))⟩, ⟨by simp [go_sem, *], by simp [go_sem, *], by simp [go_sem, *], by simp [go_sem, *]⟩⟩
      case rest =>
        obtain ⟨rfl, hJ, hB⟩ := hcut
        clear e0 e1 e2 e3 z0 z1 z2 z3 s0 s1 s2 s3 sf
        obtain ⟨z0, z1, z2, z3, s0, s1, s2, s3, sf, hG1⟩ := hJ
        obtain ⟨b0, b1, b2, b3⟩ := hB
        go_upto_region 14 with fail
        go_cut [] (fun wx => JS w2.heap.size (w2.heap.size + 1) r (sideK B4.x0 r.x0 L (k + 1)) (sideK B4.y0 r.y0 L k) (sideK B4.x1 r.x1 L k) (sideK B4.y1 r.y1 L k) w wx ∧ BS wr.heap.size b wx)
        case first =>
          have hne1 : w2.heap.size ≠ w2.heap.size + 1 := by omega
          have hne2 : wr.heap.size ≠ w2.heap.size + 1 := by omega
          cases hσ : sideK B4.x0 r.x0 L k
          · go_wp2_with fail
            go_meet
            exact ⟨⟨by simp [go_sem, *], by simp [go_sem, *], by simp [go_sem, *], by simp [go_sem, *], by rw [E0.out]; simp [go_sem, *], by simp [go_sem, *], by simp [go_sem, *], by simp [go_sem, *], fun o => by simp [go_sem, *], (by repeat (first | exact Grew.refl _ | assumption | refine Grew.drew ?_ | refine Grew.alloc ?_ _ | refine Grew.setCell ?_ (by (try simp only [World.size_alloc, World.size_drew]); omega) _ | refine Grew.trans ?_ (by assumption)))⟩, ⟨by simp [go_sem, *], by simp [go_sem, *], by simp [go_sem, *], by simp [go_sem, *]⟩⟩
          · go_wp2_with fail
            go_meet
            exact ⟨⟨by simp [go_sem, *], by simp [go_sem, *], by simp [go_sem, *], by simp [go_sem, *], by rw [E0.out]; simp [go_sem, *], by simp [go_sem, *], by simp [go_sem, *], by simp [go_sem, *], fun o => by simp [go_sem, *], (by repeat (first | exact Grew.refl _ | assumption | refine Grew.drew ?_ | refine Grew.alloc ?_ _ | refine Grew.setCell ?_ (by (try simp only [World.size_alloc, World.size_drew]); omega) _ | refine Grew.trans ?_ (by assumption)))⟩, ⟨by simp [go_sem, *], by simp [go_sem, *], by simp [go_sem, *], by simp [go_sem, *]⟩⟩
        case rest =>
          clear z0 z1 z2 z3 s0 s1 s2 s3 sf b0 b1 b2 b3
          obtain ⟨hJ, hB⟩ := hcut
          obtain ⟨z0, z1, z2, z3, s0, s1, s2, s3, sf, hG2⟩ := hJ
          obtain ⟨b0, b1, b2, b3⟩ := hB
          go_upto_region 15 with fail
          go_cut [] (fun wx => JS w2.heap.size (w2.heap.size + 1) r (sideK B4.x0 r.x0 L (k + 1)) (sideK B4.y0 r.y0 L (k + 1)) (sideK B4.x1 r.x1 L k) (sideK B4.y1 r.y1 L k) w wx ∧ BS wr.heap.size b wx)
          case first =>
            have hne1 : w2.heap.size ≠ w2.heap.size + 1 := by omega
            have hne2 : wr.heap.size ≠ w2.heap.size + 1 := by omega
            cases hσ : sideK B4.y0 r.y0 L k
            · go_wp2_with fail
              go_meet
              exact ⟨⟨by simp [go_sem, *], by simp [go_sem, *], by simp [go_sem, *], by simp [go_sem, *], by simp [go_sem, *], by rw [E1.out]; simp [go_sem, *], by simp [go_sem, *], by simp [go_sem, *], fun o => by simp [go_sem, *], (by repeat (first | exact Grew.refl _ | assumption | refine Grew.drew ?_ | refine Grew.alloc ?_ _ | refine Grew.setCell ?_ (by (try simp only [World.size_alloc, World.size_drew]); omega) _ | refine Grew.trans ?_ (by assumption)))⟩, ⟨by simp [go_sem, *], by simp [go_sem, *], by simp [go_sem, *], by simp [go_sem, *]⟩⟩
            · go_wp2_with fail
              go_meet
              exact ⟨⟨by simp [go_sem, *], by simp [go_sem, *], by simp [go_sem, *], by simp [go_sem, *], by simp [go_sem, *], by rw [E1.out]; simp [go_sem, *], by simp [go_sem, *], by simp [go_sem, *], fun o => by simp [go_sem, *], (by repeat (first | exact Grew.refl _ | assumption | refine Grew.drew ?_ | refine Grew.alloc ?_ _ | refine Grew.setCell ?_ (by (try simp only [World.size_alloc, World.size_drew]); omega) _ | refine Grew.trans ?_ (by assumption)))⟩, ⟨by simp [go_sem, *], by simp [go_sem, *], by simp [go_sem, *], by simp [go_sem, *]⟩⟩
          case rest =>
            clear z0 z1 z2 z3 s0 s1 s2 s3 sf b0 b1 b2 b3
            obtain ⟨hJ, hB⟩ := hcut
            obtain ⟨z0, z1, z2, z3, s0, s1, s2, s3, sf, hG3⟩ := hJ
            obtain ⟨b0, b1, b2, b3⟩ := hB
            go_upto_region 16 with fail
            go_cut [] (fun wx => JS w2.heap.size (w2.heap.size + 1) r (sideK B4.x0 r.x0 L (k + 1)) (sideK B4.y0 r.y0 L (k + 1)) (sideK B4.x1 r.x1 L (k + 1)) (sideK B4.y1 r.y1 L k) w wx ∧ BS wr.heap.size b wx)
            case first =>
              have hne1 : w2.heap.size ≠ w2.heap.size + 1 := by omega
              have hne2 : wr.heap.size ≠ w2.heap.size + 1 := by omega
              cases hσ : sideK B4.x1 r.x1 L k
              · go_wp2_with fail
                go_meet
                exact ⟨⟨by simp [go_sem, *], by simp [go_sem, *], by simp [go_sem, *], by simp [go_sem, *], by simp [go_sem, *], by simp [go_sem, *], by rw [E2.out]; simp [go_sem, *], by simp [go_sem, *], fun o => by simp [go_sem, *], (by repeat (first | exact Grew.refl _ | assumption | refine Grew.drew ?_ | refine Grew.alloc ?_ _ | refine Grew.setCell ?_ (by (try simp only [World.size_alloc, World.size_drew]); omega) _ | refine Grew.trans ?_ (by assumption)))⟩, ⟨by simp [go_sem, *], by simp [go_sem, *], by simp [go_sem, *], by simp [go_sem, *]⟩⟩
              · go_wp2_with fail
                go_meet
                exact ⟨⟨by simp [go_sem, *], by simp [go_sem, *], by simp [go_sem, *], by simp [go_sem, *], by simp [go_sem, *], by simp [go_sem, *], by rw [E2.out]; simp [go_sem, *], by simp [go_sem, *], fun o => by simp [go_sem, *], (by repeat (first | exact Grew.refl _ | assumption | refine Grew.drew ?_ | refine Grew.alloc ?_ _ | refine Grew.setCell ?_ (by (try simp only [World.size_alloc, World.size_drew]); omega) _ | refine Grew.trans ?_ (by assumption)))⟩, ⟨by simp [go_sem, *], by simp [go_sem, *], by simp [go_sem, *], by simp [go_sem, *]⟩⟩
            case rest =>
              clear z0 z1 z2 z3 s0 s1 s2 s3 sf b0 b1 b2 b3
              obtain ⟨hJ, hB⟩ := hcut
              obtain ⟨z0, z1, z2, z3, s0, s1, s2, s3, sf, hG4⟩ := hJ
              obtain ⟨b0, b1, b2, b3⟩ := hB
              have hne1 : w2.heap.size ≠ w2.heap.size + 1 := by omega
              have hne2 : wr.heap.size ≠ w2.heap.size + 1 := by omega
              cases hσ : sideK B4.y1 r.y1 L k
              · go_wp2_with fail
                go_roundw
                case rel => exact ⟨k + 1, by omega, rfl, by go_num, ⟨by simp [go_sem, *], by simp [go_sem, *], by simp [go_sem, *], by simp [go_sem, *], by simp [go_sem, *], by simp [go_sem, *], by simp [go_sem, *], by rw [E3.out]; simp [go_sem, *], fun o => by simp [go_sem, *], (by repeat (first | exact Grew.refl _ | assumption | refine Grew.drew ?_ | refine Grew.alloc ?_ _ | refine Grew.setCell ?_ (by (try simp only [World.size_alloc, World.size_drew]); omega) _ | refine Grew.trans ?_ (by assumption)))⟩⟩
                case measure => simp [intOf]; omega
              · go_wp2_with fail
                go_roundw
                case rel => exact ⟨k + 1, by omega, rfl, by go_num, ⟨by simp [go_sem, *], by simp [go_sem, *], by simp [go_sem, *], by simp [go_sem, *], by simp [go_sem, *], by simp [go_sem, *], by simp [go_sem, *], by rw [E3.out]; simp [go_sem, *], fun o => by simp [go_sem, *], (by repeat (first | exact Grew.refl _ | assumption | refine Grew.drew ?_ | refine Grew.alloc ?_ _ | refine Grew.setCell ?_ (by (try simp only [World.size_alloc, World.size_drew]); omega) _ | refine Grew.trans ?_ (by assumption)))⟩⟩
                case measure => simp [intOf]; omega
    · obtain rfl : k = n := by omega
      rw [S0.out] at s0
      rw [S1.out] at s1
      rw [S2.out] at s2
      rw [S3.out] at s3
      clear S0 S1 S2 S3
      obtain ⟨wo, rfl⟩ : ∃ wo : World, wo = wr := ⟨_, rfl⟩
      go_wp2_with fail
      go_loopw [10, 97] (fun s10 i wr => ∃ m : Nat, m ≤ k ∧ i = .int .i64 m ∧ wr.cell? ⟨w2.heap.size + 1, 0, none⟩ = some (.bool true) ∧ wr.cell? ⟨w2.heap.size + 1, 1, none⟩ = some (.bool true) ∧ wr.cell? ⟨w2.heap.size + 1, 2, none⟩ = some (.bool true) ∧ wr.cell? ⟨w2.heap.size + 1, 3, none⟩ = some (.bool true) ∧ wr.cell? ⟨w2.heap.size, 0, none⟩ = some (.int .i64 r.x0) ∧ wr.cell? ⟨w2.heap.size, 1, none⟩ = some (.int .i64 r.y0) ∧ wr.cell? ⟨w2.heap.size, 2, none⟩ = some (.int .i64 r.x1) ∧ wr.cell? ⟨w2.heap.size, 3, none⟩ = some (.int .i64 r.y1) ∧ Grew w wr) (fun s10 i wr => k - (intOf i).toNat)
      case atStart => exact ⟨0, Nat.zero_le _, rfl, s0, s1, s2, s3, z0, z1, z2, z3, hG⟩
      case round =>
        obtain ⟨m, hm, rfl, s0, s1, s2, s3, z0, z1, z2, z3, hG⟩ := hrel
        have hz1 : w2.heap.size + 1 < wr.heap.size := World.block_lt_of_cell? _ _ s0
        have hz0 : w2.heap.size < wr.heap.size := by omega
        by_cases hlt : m < k
        · obtain ⟨b, hb⟩ : ∃ b, L[m]? = some b := ⟨L[m]'(by rw [H1.out]; exact hlt), by simp⟩
          obtain ⟨j0, j1, j2, j3⟩ := H3.out m b hb
          have e0 : wr.cell? ⟨bb, off + m * 4, none⟩ = some (.int .i64 b.x0) := (hG.facts.1 _ _ hbb).trans j0
          have e1 : wr.cell? ⟨bb, off + m * 4 + 1, none⟩ = some (.int .i64 b.y0) := (hG.facts.1 _ _ hbb).trans j1
          have e2 : wr.cell? ⟨bb, off + m * 4 + 2, none⟩ = some (.int .i64 b.x1) := (hG.facts.1 _ _ hbb).trans j2
          have e3 : wr.cell? ⟨bb, off + m * 4 + 3, none⟩ = some (.int .i64 b.y1) := (hG.facts.1 _ _ hbb).trans j3
          have hib := F.out b (List.mem_of_getElem? hb)
          clear j0 j1 j2 j3 hb
          go_wp2_with (go_at_call 21; refine (inside_any _ _ _ _ _ _ _ _ _).mono ?_; rintro e w' ⟨rfl, hb⟩; obtain ⟨hc, hf⟩ := hb.facts; have hz := hb.size; (try simp only [World.size_alloc, World.size_drew] at hz); (try (have hcq := fun o => hc (w.heap.size) o (by (try simp only [World.size_alloc, World.size_drew]); omega))); (try (have hcq := fun o => hc (w.heap.size + 1) o (by (try simp only [World.size_alloc, World.size_drew]); omega))); (try (have hcq := fun o => hc (w.heap.size + 1 + 1) o (by (try simp only [World.size_alloc, World.size_drew]); omega))); (try (have hcq := fun o => hc (w.heap.size + 1 + 1 + 1) o (by (try simp only [World.size_alloc, World.size_drew]); omega))); (try (have hcq := fun o => hc (w1.heap.size) o (by (try simp only [World.size_alloc, World.size_drew]); omega))); (try (have hcq := fun o => hc (w1.heap.size + 1) o (by (try simp only [World.size_alloc, World.size_drew]); omega))); (try (have hcq := fun o => hc (w2.heap.size) o (by (try simp only [World.size_alloc, World.size_drew]); omega))); (try (have hcq := fun o => hc (w2.heap.size + 1) o (by (try simp only [World.size_alloc, World.size_drew]); omega))); (try (have hcq := fun o => hc (0) o (by (try simp only [World.size_alloc, World.size_drew]); omega))); (try (have hcq := fun o => hc (1) o (by (try simp only [World.size_alloc, World.size_drew]); omega))); (try (have hcq := fun o => hc (2) o (by (try simp only [World.size_alloc, World.size_drew]); omega))); (try (have hcq := fun o => hc (wr.heap.size) o (by (try simp only [World.size_alloc, World.size_drew]); omega))); (try (have hq : w.heap.size < w'.heap.size := by omega)); (try (have hq : w.heap.size + 1 < w'.heap.size := by omega)); (try (have hq : w.heap.size + 1 + 1 < w'.heap.size := by omega)); (try (have hq : w.heap.size + 1 + 1 + 1 < w'.heap.size := by omega)); (try (have hq : w1.heap.size < w'.heap.size := by omega)); (try (have hq : w1.heap.size + 1 < w'.heap.size := by omega)); (try (have hq : w2.heap.size < w'.heap.size := by omega)); (try (have hq : w2.heap.size + 1 < w'.heap.size := by omega)); (try (have hq : 0 < w'.heap.size := by omega)); (try (have hq : 1 < w'.heap.size := by omega)); (try (have hq : 2 < w'.heap.size := by omega)); (try (have hq : wr.heap.size < w'.heap.size := by omega)))
          go_roundw
          case rel => exact ⟨m + 1, by omega, by go_num, by simp [go_sem, *], by simp [go_sem, *], by simp [go_sem, *], by simp [go_sem, *], by simp [go_sem, *], by simp [go_sem, *], by simp [go_sem, *], by simp [go_sem, *], (by repeat (first | exact Grew.refl _ | assumption | refine Grew.drew ?_ | refine Grew.alloc ?_ _ | refine Grew.setCell ?_ (by (try simp only [World.size_alloc, World.size_drew]); omega) _ | refine Grew.trans ?_ (by assumption)))⟩
          case measure => simp [intOf]; omega
        · obtain rfl : m = k := by omega
          have hq := eq_sides
          go_wp2
          go_ret
          exact ⟨rfl, (by repeat (first | exact Grew.refl _ | assumption | refine Grew.drew ?_ | refine Grew.alloc ?_ _ | refine Grew.setCell ?_ (by (try simp only [World.size_alloc, World.size_drew]); omega) _ | refine Grew.trans ?_ (by assumption)))⟩
end Go.Proofs.YtlaiikahgioonaaDoor

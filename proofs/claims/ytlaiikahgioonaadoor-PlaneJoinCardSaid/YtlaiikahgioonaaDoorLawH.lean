/- The walk of the law PlaneJoin where some box isn't right: it answers true. Conditions: the list's cells; package api's errors' cells. -/
import Derived.Test.YtlaiikahgioonaaDoorLawF
import Derived.Test.YtlaiikahgioonaaDoorNum
import Derived.Deep.LoopGhost
import Derived.Deep.DeepCutAuto
import Derived.Outline
namespace Go.Proofs.YtlaiikahgioonaaDoor
set_option linter.unusedSimpArgs false
set_option linter.unusedVariables false
open Go.RowKit

/-- The joined box lies at block B (all 0), four bools at block T, all else is as it was. -/
structure JAt (B T : Nat) (w wx : World) : Prop where
  z0 : wx.cell? ⟨B, 0, none⟩ = some (.int .i64 0)
  z1 : wx.cell? ⟨B, 1, none⟩ = some (.int .i64 0)
  z2 : wx.cell? ⟨B, 2, none⟩ = some (.int .i64 0)
  z3 : wx.cell? ⟨B, 3, none⟩ = some (.int .i64 0)
  s : ∃ σ0 σ1 σ2 σ3 : Bool, wx.cell? ⟨T, 0, none⟩ = some (.bool σ0) ∧ wx.cell? ⟨T, 1, none⟩ = some (.bool σ1) ∧ wx.cell? ⟨T, 2, none⟩ = some (.bool σ2) ∧ wx.cell? ⟨T, 3, none⟩ = some (.bool σ3)
  f : ∀ o, wx.frozen? ⟨T, o, none⟩ = false
  g : Grew w wx
structure BAt (C : Nat) (b : B4) (wx : World) : Prop where
  x0 : wx.cell? ⟨C, 0, none⟩ = some (.int .i64 b.x0)
  y0 : wx.cell? ⟨C, 1, none⟩ = some (.int .i64 b.y0)
  x1 : wx.cell? ⟨C, 2, none⟩ = some (.int .i64 b.x1)
  y1 : wx.cell? ⟨C, 3, none⟩ = some (.int .i64 b.y1)

set_option maxRecDepth 100000 in
set_option maxHeartbeats 8000000 in
theorem planeJoin_bad (bb off cap n : Nat) (L : List B4) (w : World) (ad : Nat → Addr) (hE : Errs w ad) (hl : BoxesAt w bb off L) (hn : L.length = n) (hbb : bb < w.heap.size) (hlen : n ≤ 200) (m : Nat) (hm : m < n) (hr : ∀ k b, k < m → L[k]? = some b → b.right = true) (hb : ∀ b, L[m]? = some b → b.right = false) :
    Calls Tryd.prog 13 #[.slice (some ⟨bb, off, none⟩) n cap] w fun e w' => e = .returned (.bool true) ∧ Grew w w' := by
  have hn0 : 0 < n := by omega
  have hne : ((n : Int) == 0) = false := by rw [beq_eq_false_iff_ne]; omega
  have hj : Hid (∀ w1, Grew w w1 → Calls Tryd.prog 26 #[.slice (some ⟨bb, off, none⟩) n cap] w1 fun e w' => e = .returned (.tuple #[.agg #[.int .i64 0, .int .i64 0, .int .i64 0, .int .i64 0], .iface 80 (.pointer (some (ad 1)))]) ∧ Grew w1 w') := by
    intro w1 h
    have hl1 : BoxesAt w1 bb off L := fun k b hb => by
      obtain ⟨j0, j1, j2, j3⟩ := hl k b hb
      exact ⟨(h.facts.1 _ _ hbb).trans j0, (h.facts.1 _ _ hbb).trans j1, (h.facts.1 _ _ hbb).trans j2, (h.facts.1 _ _ hbb).trans j3⟩
    exact join_bad bb off cap n L w1 (ad 1) ((hE.grew h).cell _ (by decide)) hl1 hn (by have := h.size; omega) (by omega) m hm hr hb
  have H1 : Hid (L.length = n) := hn
  have H2 : Hid (∀ k b, k < m → L[k]? = some b → b.right = true) := hr
  have H4 : Hid (∀ b, L[m]? = some b → b.right = false) := hb
  have H3 : Hid (BoxesAt w bb off L) := hl
  clear hn hr hl hb
  go_enter Tryd.func13, Tryd.ntmps13
  go_wp2_with (first | (go_at_call 14; refine (alive_any _).mono ?_; rintro e w' ⟨rfl, hb⟩; obtain ⟨hc, hf⟩ := hb.facts; have hz := hb.size; (try simp only [World.size_alloc, World.size_drew] at hz); (try (have hcq := fun o => hc (w.heap.size) o (by (try simp only [World.size_alloc, World.size_drew]); omega))); (try (have hcq := fun o => hc (w.heap.size + 1) o (by (try simp only [World.size_alloc, World.size_drew]); omega))); (try (have hcq := fun o => hc (w.heap.size + 1 + 1) o (by (try simp only [World.size_alloc, World.size_drew]); omega))); (try (have hcq := fun o => hc (w.heap.size + 1 + 1 + 1) o (by (try simp only [World.size_alloc, World.size_drew]); omega))); (try (have hcq := fun o => hc (w1.heap.size) o (by (try simp only [World.size_alloc, World.size_drew]); omega))); (try (have hcq := fun o => hc (w1.heap.size + 1) o (by (try simp only [World.size_alloc, World.size_drew]); omega))); (try (have hcq := fun o => hc (w2.heap.size) o (by (try simp only [World.size_alloc, World.size_drew]); omega))); (try (have hcq := fun o => hc (w2.heap.size + 1) o (by (try simp only [World.size_alloc, World.size_drew]); omega))); (try (have hcq := fun o => hc (0) o (by (try simp only [World.size_alloc, World.size_drew]); omega))); (try (have hcq := fun o => hc (1) o (by (try simp only [World.size_alloc, World.size_drew]); omega))); (try (have hcq := fun o => hc (2) o (by (try simp only [World.size_alloc, World.size_drew]); omega))); (try (have hcq := fun o => hc (wr.heap.size) o (by (try simp only [World.size_alloc, World.size_drew]); omega))); (try (have hq : w.heap.size < w'.heap.size := by omega)); (try (have hq : w.heap.size + 1 < w'.heap.size := by omega)); (try (have hq : w.heap.size + 1 + 1 < w'.heap.size := by omega)); (try (have hq : w.heap.size + 1 + 1 + 1 < w'.heap.size := by omega)); (try (have hq : w1.heap.size < w'.heap.size := by omega)); (try (have hq : w1.heap.size + 1 < w'.heap.size := by omega)); (try (have hq : w2.heap.size < w'.heap.size := by omega)); (try (have hq : w2.heap.size + 1 < w'.heap.size := by omega)); (try (have hq : 0 < w'.heap.size := by omega)); (try (have hq : 1 < w'.heap.size := by omega)); (try (have hq : 2 < w'.heap.size := by omega)); (try (have hq : wr.heap.size < w'.heap.size := by omega))) | (go_at_call 26; refine (hj.out _ (by first | (simp [*]; done) | repeat (first | exact Grew.refl _ | assumption | refine Grew.drew ?_ | refine Grew.alloc ?_ _ | refine Grew.setCell ?_ (by (try simp only [World.size_alloc, World.size_drew]); omega) _ | refine Grew.trans ?_ (by assumption)))).mono ?_; rintro e w2 ⟨rfl, hb⟩; obtain ⟨hc, hf⟩ := hb.facts; have hz := hb.size; (try simp only [World.size_alloc, World.size_drew] at hz); (try (have hcq := fun o => hc (w.heap.size) o (by (try simp only [World.size_alloc, World.size_drew]); omega))); (try (have hcq := fun o => hc (w.heap.size + 1) o (by (try simp only [World.size_alloc, World.size_drew]); omega))); (try (have hcq := fun o => hc (w.heap.size + 1 + 1) o (by (try simp only [World.size_alloc, World.size_drew]); omega))); (try (have hcq := fun o => hc (w.heap.size + 1 + 1 + 1) o (by (try simp only [World.size_alloc, World.size_drew]); omega))); (try (have hcq := fun o => hc (w1.heap.size) o (by (try simp only [World.size_alloc, World.size_drew]); omega))); (try (have hcq := fun o => hc (w1.heap.size + 1) o (by (try simp only [World.size_alloc, World.size_drew]); omega))); (try (have hcq := fun o => hc (w2.heap.size) o (by (try simp only [World.size_alloc, World.size_drew]); omega))); (try (have hcq := fun o => hc (w2.heap.size + 1) o (by (try simp only [World.size_alloc, World.size_drew]); omega))); (try (have hcq := fun o => hc (0) o (by (try simp only [World.size_alloc, World.size_drew]); omega))); (try (have hcq := fun o => hc (1) o (by (try simp only [World.size_alloc, World.size_drew]); omega))); (try (have hcq := fun o => hc (2) o (by (try simp only [World.size_alloc, World.size_drew]); omega))); (try (have hcq := fun o => hc (wr.heap.size) o (by (try simp only [World.size_alloc, World.size_drew]); omega))); (try (have hq : w.heap.size < w2.heap.size := by omega)); (try (have hq : w.heap.size + 1 < w2.heap.size := by omega)); (try (have hq : w.heap.size + 1 + 1 < w2.heap.size := by omega)); (try (have hq : w.heap.size + 1 + 1 + 1 < w2.heap.size := by omega)); (try (have hq : w1.heap.size < w2.heap.size := by omega)); (try (have hq : w1.heap.size + 1 < w2.heap.size := by omega)); (try (have hq : w2.heap.size < w2.heap.size := by omega)); (try (have hq : w2.heap.size + 1 < w2.heap.size := by omega)); (try (have hq : 0 < w2.heap.size := by omega)); (try (have hq : 1 < w2.heap.size := by omega)); (try (have hq : 2 < w2.heap.size := by omega)); (try (have hq : wr.heap.size < w2.heap.size := by omega))))
  have hzA := hb.size
  have hGw : Grew w w2 := (by repeat (first | exact Grew.refl _ | assumption | refine Grew.drew ?_ | refine Grew.alloc ?_ _ | refine Grew.setCell ?_ (by (try simp only [World.size_alloc, World.size_drew]); omega) _ | refine Grew.trans ?_ (by assumption)))
  have hzB := hGw.size
  go_loopw [5, 8, 35] (fun s5 s8 i wr => ∃ k : Nat, k ≤ n ∧ s5 = .bool (decide (k ≤ m)) ∧ i = .int .i64 k ∧ JAt w2.heap.size (w2.heap.size + 1) w wr) (fun s5 s8 i wr => n - (intOf i).toNat)
  case atStart => exact ⟨0, Nat.zero_le _, by simp, rfl, ⟨by simp [go_sem], by simp [go_sem], by simp [go_sem], by simp [go_sem], ⟨false, false, false, false, by simp [go_sem], by simp [go_sem], by simp [go_sem], by simp [go_sem]⟩, fun o => by simp [go_sem], (by repeat (first | exact Grew.refl _ | assumption | refine Grew.drew ?_ | refine Grew.alloc ?_ _ | refine Grew.setCell ?_ (by (try simp only [World.size_alloc, World.size_drew]); omega) _ | refine Grew.trans ?_ (by assumption)))⟩⟩
  case round =>
    obtain ⟨k, hk, rfl, rfl, hJ⟩ := hrel
    obtain ⟨z0, z1, z2, z3, ⟨σ0, σ1, σ2, σ3, s0, s1, s2, s3⟩, sf, hG⟩ := hJ
    have hz1 : w2.heap.size + 1 < wr.heap.size := World.block_lt_of_cell? _ _ s0
    have hz0 : w2.heap.size < wr.heap.size := by omega
    by_cases hlt : k < n
    · obtain ⟨b, hb⟩ : ∃ b, L[k]? = some b := ⟨L[k]'(by rw [H1.out]; exact hlt), by simp⟩
      obtain ⟨j0, j1, j2, j3⟩ := H3.out k b hb
      have e0 : wr.cell? ⟨bb, off + k * 4, none⟩ = some (.int .i64 b.x0) := (hG.facts.1 _ _ hbb).trans j0
      have e1 : wr.cell? ⟨bb, off + k * 4 + 1, none⟩ = some (.int .i64 b.y0) := (hG.facts.1 _ _ hbb).trans j1
      have e2 : wr.cell? ⟨bb, off + k * 4 + 2, none⟩ = some (.int .i64 b.x1) := (hG.facts.1 _ _ hbb).trans j2
      have e3 : wr.cell? ⟨bb, off + k * 4 + 3, none⟩ = some (.int .i64 b.y1) := (hG.facts.1 _ _ hbb).trans j3
      have key : Hid ((decide (k ≤ m) && rightB b.x0 b.y0 b.x1 b.y1) = decide (k + 1 ≤ m)) := by
        show _ = _
        rcases Nat.lt_trichotomy k m with h | h | h
        · have := H2.out k b h hb
          rw [show rightB b.x0 b.y0 b.x1 b.y1 = true from this]; simp; omega
        · subst h
          rw [show rightB b.x0 b.y0 b.x1 b.y1 = false from H4.out b hb]; simp
        · rw [show decide (k ≤ m) = false from by simp; omega]; simp; omega
      clear j0 j1 j2 j3 hb
      go_upto_region 13 with fail
      go_cut [5] (fun s5 wx => s5 = .bool (decide (k + 1 ≤ m)) ∧ JAt w2.heap.size (w2.heap.size + 1) w wx ∧ BAt wr.heap.size b wx)
      case first =>
        by_cases hkm : k ≤ m
        · have hd : decide (k ≤ m) = true := by simpa using hkm
          have kk := key.out.symm
          rw [hd, Bool.true_and] at kk
          go_wp2_with (go_at_call 15; refine (right_any _ _ _ _ _).mono ?_; rintro e w' ⟨rfl, hb⟩; obtain ⟨hc, hf⟩ := hb.facts; have hz := hb.size; (try simp only [World.size_alloc, World.size_drew] at hz); (try (have hcq := fun o => hc (w.heap.size) o (by (try simp only [World.size_alloc, World.size_drew]); omega))); (try (have hcq := fun o => hc (w.heap.size + 1) o (by (try simp only [World.size_alloc, World.size_drew]); omega))); (try (have hcq := fun o => hc (w.heap.size + 1 + 1) o (by (try simp only [World.size_alloc, World.size_drew]); omega))); (try (have hcq := fun o => hc (w.heap.size + 1 + 1 + 1) o (by (try simp only [World.size_alloc, World.size_drew]); omega))); (try (have hcq := fun o => hc (w1.heap.size) o (by (try simp only [World.size_alloc, World.size_drew]); omega))); (try (have hcq := fun o => hc (w1.heap.size + 1) o (by (try simp only [World.size_alloc, World.size_drew]); omega))); (try (have hcq := fun o => hc (w2.heap.size) o (by (try simp only [World.size_alloc, World.size_drew]); omega))); (try (have hcq := fun o => hc (w2.heap.size + 1) o (by (try simp only [World.size_alloc, World.size_drew]); omega))); (try (have hcq := fun o => hc (0) o (by (try simp only [World.size_alloc, World.size_drew]); omega))); (try (have hcq := fun o => hc (1) o (by (try simp only [World.size_alloc, World.size_drew]); omega))); (try (have hcq := fun o => hc (2) o (by (try simp only [World.size_alloc, World.size_drew]); omega))); (try (have hcq := fun o => hc (wr.heap.size) o (by (try simp only [World.size_alloc, World.size_drew]); omega))); (try (have hq : w.heap.size < w'.heap.size := by omega)); (try (have hq : w.heap.size + 1 < w'.heap.size := by omega)); (try (have hq : w.heap.size + 1 + 1 < w'.heap.size := by omega)); (try (have hq : w.heap.size + 1 + 1 + 1 < w'.heap.size := by omega)); (try (have hq : w1.heap.size < w'.heap.size := by omega)); (try (have hq : w1.heap.size + 1 < w'.heap.size := by omega)); (try (have hq : w2.heap.size < w'.heap.size := by omega)); (try (have hq : w2.heap.size + 1 < w'.heap.size := by omega)); (try (have hq : 0 < w'.heap.size := by omega)); (try (have hq : 1 < w'.heap.size := by omega)); (try (have hq : 2 < w'.heap.size := by omega)); (try (have hq : wr.heap.size < w'.heap.size := by omega)))
          go_meet
          exact ⟨by first | rfl | rw [kk], ⟨by simp [go_sem, *], by simp [go_sem, *], by simp [go_sem, *], by simp [go_sem, *], ⟨σ0, σ1, σ2, σ3, by simp [go_sem, *], by simp [go_sem, *], by simp [go_sem, *], by simp [go_sem, *]⟩, fun o => by simp [go_sem, *], (by repeat (first | exact Grew.refl _ | assumption | refine Grew.drew ?_ | refine Grew.alloc ?_ _ | refine Grew.setCell ?_ (by (try simp only [World.size_alloc, World.size_drew]); omega) _ | refine Grew.trans ?_ (by assumption)))⟩, ⟨by simp [go_sem, *], by simp [go_sem, *], by simp [go_sem, *], by simp [go_sem, *]⟩⟩
        · have hd : decide (k ≤ m) = false := by simpa using hkm
          have kk := key.out.symm
          rw [hd, Bool.false_and] at kk
          go_wp2_with fail
          go_meet
          exact ⟨by first | rfl | rw [kk], ⟨by simp [go_sem, *], by simp [go_sem, *], by simp [go_sem, *], by simp [go_sem, *], ⟨σ0, σ1, σ2, σ3, by simp [go_sem, *], by simp [go_sem, *], by simp [go_sem, *], by simp [go_sem, *]⟩, fun o => by simp [go_sem, *], (by repeat (first | exact Grew.refl _ | assumption | refine Grew.drew ?_ | refine Grew.alloc ?_ _ | refine Grew.setCell ?_ (by (try simp only [World.size_alloc, World.size_drew]); omega) _ | refine Grew.trans ?_ (by assumption)))⟩, ⟨by simp [go_sem, *], by simp [go_sem, *], by simp [go_sem, *], by simp [go_sem, *]⟩⟩
      case rest =>
        obtain ⟨rfl, hJ, hB⟩ := hcut
        clear e0 e1 e2 e3 z0 z1 z2 z3 s0 s1 s2 s3 sf σ0 σ1 σ2 σ3 key
        obtain ⟨z0, z1, z2, z3, ⟨σ0, σ1, σ2, σ3, s0, s1, s2, s3⟩, sf, hG1⟩ := hJ
        obtain ⟨b0, b1, b2, b3⟩ := hB
        go_upto_region 14 with fail
        go_cut [] (fun wx => JAt w2.heap.size (w2.heap.size + 1) w wx ∧ BAt wr.heap.size b wx)
        case first =>
          have hne1 : w2.heap.size ≠ w2.heap.size + 1 := by omega
          have hne2 : wr.heap.size ≠ w2.heap.size + 1 := by omega
          cases σ0
          · go_wp2_with fail
            go_meet
            exact ⟨⟨by simp [go_sem, *], by simp [go_sem, *], by simp [go_sem, *], by simp [go_sem, *], ⟨(b.x0 == 0), σ1, σ2, σ3, by simp [go_sem, *], by simp [go_sem, *], by simp [go_sem, *], by simp [go_sem, *]⟩, fun o => by simp [go_sem, *], (by repeat (first | exact Grew.refl _ | assumption | refine Grew.drew ?_ | refine Grew.alloc ?_ _ | refine Grew.setCell ?_ (by (try simp only [World.size_alloc, World.size_drew]); omega) _ | refine Grew.trans ?_ (by assumption)))⟩, ⟨by simp [go_sem, *], by simp [go_sem, *], by simp [go_sem, *], by simp [go_sem, *]⟩⟩
          · go_wp2_with fail
            go_meet
            exact ⟨⟨by simp [go_sem, *], by simp [go_sem, *], by simp [go_sem, *], by simp [go_sem, *], ⟨true, σ1, σ2, σ3, by simp [go_sem, *], by simp [go_sem, *], by simp [go_sem, *], by simp [go_sem, *]⟩, fun o => by simp [go_sem, *], (by repeat (first | exact Grew.refl _ | assumption | refine Grew.drew ?_ | refine Grew.alloc ?_ _ | refine Grew.setCell ?_ (by (try simp only [World.size_alloc, World.size_drew]); omega) _ | refine Grew.trans ?_ (by assumption)))⟩, ⟨by simp [go_sem, *], by simp [go_sem, *], by simp [go_sem, *], by simp [go_sem, *]⟩⟩
        case rest =>
          clear z0 z1 z2 z3 s0 s1 s2 s3 sf b0 b1 b2 b3 σ0 σ1 σ2 σ3
          obtain ⟨hJ, hB⟩ := hcut
          obtain ⟨z0, z1, z2, z3, ⟨σ0, σ1, σ2, σ3, s0, s1, s2, s3⟩, sf, hG2⟩ := hJ
          obtain ⟨b0, b1, b2, b3⟩ := hB
          go_upto_region 15 with fail
          go_cut [] (fun wx => JAt w2.heap.size (w2.heap.size + 1) w wx ∧ BAt wr.heap.size b wx)
          case first =>
            have hne1 : w2.heap.size ≠ w2.heap.size + 1 := by omega
            have hne2 : wr.heap.size ≠ w2.heap.size + 1 := by omega
            cases σ1
            · go_wp2_with fail
              go_meet
              exact ⟨⟨by simp [go_sem, *], by simp [go_sem, *], by simp [go_sem, *], by simp [go_sem, *], ⟨σ0, (b.y0 == 0), σ2, σ3, by simp [go_sem, *], by simp [go_sem, *], by simp [go_sem, *], by simp [go_sem, *]⟩, fun o => by simp [go_sem, *], (by repeat (first | exact Grew.refl _ | assumption | refine Grew.drew ?_ | refine Grew.alloc ?_ _ | refine Grew.setCell ?_ (by (try simp only [World.size_alloc, World.size_drew]); omega) _ | refine Grew.trans ?_ (by assumption)))⟩, ⟨by simp [go_sem, *], by simp [go_sem, *], by simp [go_sem, *], by simp [go_sem, *]⟩⟩
            · go_wp2_with fail
              go_meet
              exact ⟨⟨by simp [go_sem, *], by simp [go_sem, *], by simp [go_sem, *], by simp [go_sem, *], ⟨σ0, true, σ2, σ3, by simp [go_sem, *], by simp [go_sem, *], by simp [go_sem, *], by simp [go_sem, *]⟩, fun o => by simp [go_sem, *], (by repeat (first | exact Grew.refl _ | assumption | refine Grew.drew ?_ | refine Grew.alloc ?_ _ | refine Grew.setCell ?_ (by (try simp only [World.size_alloc, World.size_drew]); omega) _ | refine Grew.trans ?_ (by assumption)))⟩, ⟨by simp [go_sem, *], by simp [go_sem, *], by simp [go_sem, *], by simp [go_sem, *]⟩⟩
          case rest =>
            clear z0 z1 z2 z3 s0 s1 s2 s3 sf b0 b1 b2 b3 σ0 σ1 σ2 σ3
            obtain ⟨hJ, hB⟩ := hcut
            obtain ⟨z0, z1, z2, z3, ⟨σ0, σ1, σ2, σ3, s0, s1, s2, s3⟩, sf, hG3⟩ := hJ
            obtain ⟨b0, b1, b2, b3⟩ := hB
            go_upto_region 16 with fail
            go_cut [] (fun wx => JAt w2.heap.size (w2.heap.size + 1) w wx ∧ BAt wr.heap.size b wx)
            case first =>
              have hne1 : w2.heap.size ≠ w2.heap.size + 1 := by omega
              have hne2 : wr.heap.size ≠ w2.heap.size + 1 := by omega
              cases σ2
              · go_wp2_with fail
                go_meet
                exact ⟨⟨by simp [go_sem, *], by simp [go_sem, *], by simp [go_sem, *], by simp [go_sem, *], ⟨σ0, σ1, (b.x1 == 0), σ3, by simp [go_sem, *], by simp [go_sem, *], by simp [go_sem, *], by simp [go_sem, *]⟩, fun o => by simp [go_sem, *], (by repeat (first | exact Grew.refl _ | assumption | refine Grew.drew ?_ | refine Grew.alloc ?_ _ | refine Grew.setCell ?_ (by (try simp only [World.size_alloc, World.size_drew]); omega) _ | refine Grew.trans ?_ (by assumption)))⟩, ⟨by simp [go_sem, *], by simp [go_sem, *], by simp [go_sem, *], by simp [go_sem, *]⟩⟩
              · go_wp2_with fail
                go_meet
                exact ⟨⟨by simp [go_sem, *], by simp [go_sem, *], by simp [go_sem, *], by simp [go_sem, *], ⟨σ0, σ1, true, σ3, by simp [go_sem, *], by simp [go_sem, *], by simp [go_sem, *], by simp [go_sem, *]⟩, fun o => by simp [go_sem, *], (by repeat (first | exact Grew.refl _ | assumption | refine Grew.drew ?_ | refine Grew.alloc ?_ _ | refine Grew.setCell ?_ (by (try simp only [World.size_alloc, World.size_drew]); omega) _ | refine Grew.trans ?_ (by assumption)))⟩, ⟨by simp [go_sem, *], by simp [go_sem, *], by simp [go_sem, *], by simp [go_sem, *]⟩⟩
            case rest =>
              clear z0 z1 z2 z3 s0 s1 s2 s3 sf b0 b1 b2 b3 σ0 σ1 σ2 σ3
              obtain ⟨hJ, hB⟩ := hcut
              obtain ⟨z0, z1, z2, z3, ⟨σ0, σ1, σ2, σ3, s0, s1, s2, s3⟩, sf, hG4⟩ := hJ
              obtain ⟨b0, b1, b2, b3⟩ := hB
              have hne1 : w2.heap.size ≠ w2.heap.size + 1 := by omega
              have hne2 : wr.heap.size ≠ w2.heap.size + 1 := by omega
              cases σ3
              · go_wp2_with fail
                go_roundw
                case rel => exact ⟨k + 1, by omega, rfl, by go_num, ⟨by simp [go_sem, *], by simp [go_sem, *], by simp [go_sem, *], by simp [go_sem, *], ⟨σ0, σ1, σ2, (b.y1 == 0), by simp [go_sem, *], by simp [go_sem, *], by simp [go_sem, *], by simp [go_sem, *]⟩, fun o => by simp [go_sem, *], (by repeat (first | exact Grew.refl _ | assumption | refine Grew.drew ?_ | refine Grew.alloc ?_ _ | refine Grew.setCell ?_ (by (try simp only [World.size_alloc, World.size_drew]); omega) _ | refine Grew.trans ?_ (by assumption)))⟩⟩
                case measure => simp [intOf]; omega
              · go_wp2_with fail
                go_roundw
                case rel => exact ⟨k + 1, by omega, rfl, by go_num, ⟨by simp [go_sem, *], by simp [go_sem, *], by simp [go_sem, *], by simp [go_sem, *], ⟨σ0, σ1, σ2, true, by simp [go_sem, *], by simp [go_sem, *], by simp [go_sem, *], by simp [go_sem, *]⟩, fun o => by simp [go_sem, *], (by repeat (first | exact Grew.refl _ | assumption | refine Grew.drew ?_ | refine Grew.alloc ?_ _ | refine Grew.setCell ?_ (by (try simp only [World.size_alloc, World.size_drew]); omega) _ | refine Grew.trans ?_ (by assumption)))⟩⟩
                case measure => simp [intOf]; omega
    · obtain rfl : k = n := by omega
      have hd : decide (k ≤ m) = false := by simp; omega
      go_wp2_with (go_at_call 29; refine (num_Form _ ad (hE.grew (by first | (simp [*]; done) | repeat (first | exact Grew.refl _ | assumption | refine Grew.drew ?_ | refine Grew.alloc ?_ _ | refine Grew.setCell ?_ (by (try simp only [World.size_alloc, World.size_drew]); omega) _ | refine Grew.trans ?_ (by assumption))))).mono ?_; rintro e w' ⟨rfl, hb⟩; obtain ⟨hc, hf⟩ := hb.facts; have hz := hb.size; (try simp only [World.size_alloc, World.size_drew] at hz); (try (have hcq := fun o => hc (w.heap.size) o (by (try simp only [World.size_alloc, World.size_drew]); omega))); (try (have hcq := fun o => hc (w.heap.size + 1) o (by (try simp only [World.size_alloc, World.size_drew]); omega))); (try (have hcq := fun o => hc (w.heap.size + 1 + 1) o (by (try simp only [World.size_alloc, World.size_drew]); omega))); (try (have hcq := fun o => hc (w.heap.size + 1 + 1 + 1) o (by (try simp only [World.size_alloc, World.size_drew]); omega))); (try (have hcq := fun o => hc (w1.heap.size) o (by (try simp only [World.size_alloc, World.size_drew]); omega))); (try (have hcq := fun o => hc (w1.heap.size + 1) o (by (try simp only [World.size_alloc, World.size_drew]); omega))); (try (have hcq := fun o => hc (w2.heap.size) o (by (try simp only [World.size_alloc, World.size_drew]); omega))); (try (have hcq := fun o => hc (w2.heap.size + 1) o (by (try simp only [World.size_alloc, World.size_drew]); omega))); (try (have hcq := fun o => hc (0) o (by (try simp only [World.size_alloc, World.size_drew]); omega))); (try (have hcq := fun o => hc (1) o (by (try simp only [World.size_alloc, World.size_drew]); omega))); (try (have hcq := fun o => hc (2) o (by (try simp only [World.size_alloc, World.size_drew]); omega))); (try (have hcq := fun o => hc (wr.heap.size) o (by (try simp only [World.size_alloc, World.size_drew]); omega))); (try (have hq : w.heap.size < w'.heap.size := by omega)); (try (have hq : w.heap.size + 1 < w'.heap.size := by omega)); (try (have hq : w.heap.size + 1 + 1 < w'.heap.size := by omega)); (try (have hq : w.heap.size + 1 + 1 + 1 < w'.heap.size := by omega)); (try (have hq : w1.heap.size < w'.heap.size := by omega)); (try (have hq : w1.heap.size + 1 < w'.heap.size := by omega)); (try (have hq : w2.heap.size < w'.heap.size := by omega)); (try (have hq : w2.heap.size + 1 < w'.heap.size := by omega)); (try (have hq : 0 < w'.heap.size := by omega)); (try (have hq : 1 < w'.heap.size := by omega)); (try (have hq : 2 < w'.heap.size := by omega)); (try (have hq : wr.heap.size < w'.heap.size := by omega)))
      go_ret
      exact ⟨rfl, (by repeat (first | exact Grew.refl _ | assumption | refine Grew.drew ?_ | refine Grew.alloc ?_ _ | refine Grew.setCell ?_ (by (try simp only [World.size_alloc, World.size_drew]); omega) _ | refine Grew.trans ?_ (by assumption)))⟩
end Go.Proofs.YtlaiikahgioonaaDoor

/- The walks of slices.Index and Contains at integers and of (*region.Regions).ask. Conditions: the list's cells, the region's cells, the sentinel's cell. -/
import Derived.Test.YtbgbfljbjpbinaaDoorReg1
import Derived.Deep.LoopGhost
namespace Go.Proofs.YtbgbfljbjpbinaaDoor
set_option linter.unusedSimpArgs false
set_option linter.unusedVariables false
open Go.RowKit

/-- A list of integers at an address, with its room. -/
structure ListAt (w : World) (bb off cap : Nat) (L : List Int) : Prop where
  room : L.length ≤ cap
  top : cap ≤ maxLen
  lt : bb < w.heap.size
  cs : ∀ k x, L[k]? = some x → w.cell? ⟨bb, off + k, none⟩ = some (.int .i64 x)
theorem ListAt.grew {w w' : World} {bb off cap : Nat} {L : List Int} (h : ListAt w bb off cap L) (g : Grew w w') : ListAt w' bb off cap L :=
  ⟨h.room, h.top, by have := g.size; have := h.lt; omega, fun k x hx => (g.facts.1 _ _ h.lt).trans (h.cs k x hx)⟩
theorem ListAt.take {w : World} {bb off cap : Nat} {L : List Int} (h : ListAt w bb off cap L) (i : Nat) : ListAt w bb off cap (L.take i) :=
  ⟨by have := h.room; simp; omega, h.top, h.lt, fun k x hx => h.cs k x (by rw [List.getElem?_take] at hx; split at hx; exact hx; cases hx)⟩

set_option maxRecDepth 100000 in
set_option maxHeartbeats 4000000 in
theorem indexI_any (bb off cap : Nat) (L : List Int) (x : Int) (n : Nat) (w : World) (hL : ListAt w bb off cap L) (hn : n = L.length) :
    Calls Tryd.prog 77 #[.slice (some ⟨bb, off, none⟩) n cap, .int .i64 x] w fun e w' => (∃ r : Int, e = .returned (.int .i64 r) ∧ decide (0 ≤ r) = decide (x ∈ L)) ∧ Grew w w' := by
  have HL : Hid (ListAt w bb off cap L) := hL
  have HN : Hid (n = L.length) := hn
  have hroom := hL.room
  have htop := hL.top
  have hlt := hL.lt
  rw [← hn] at hroom
  clear hL hn
  unfold maxLen at htop
  go_enter Tryd.func77, Tryd.ntmps77
  go_wp2_with fail
  go_loopw [4, 8] (fun s4 i wr => ∃ k : Nat, k ≤ n ∧ s4 = .int .i64 0 ∧ i = .int .i64 k ∧ x ∉ L.take k ∧ Grew w wr) (fun s4 i wr => n - (intOf i).toNat)
  case atStart => exact ⟨0, Nat.zero_le _, rfl, by simp, by simp, (by repeat (first | exact Grew.refl _ | assumption | refine Grew.drew ?_ | refine Grew.alloc ?_ _ | refine Grew.setCell ?_ (by (try simp only [World.size_alloc, World.size_drew]); omega) _ | refine Grew.trans ?_ (by assumption)))⟩
  case round =>
    obtain ⟨k, hk, rfl, rfl, hX, hG⟩ := hrel
    have HX : Hid (x ∉ L.take k) := hX
    clear hX
    by_cases hlk : k < n
    · obtain ⟨y, hy⟩ : ∃ y, L[k]? = some y := ⟨L[k]'(by rw [← HN.out]; exact hlk), by simp⟩
      have hyc : wr.cell? ⟨bb, off + k, none⟩ = some (.int .i64 y) := (hG.facts.1 _ _ hlt).trans (HL.out.cs k y hy)
      have HY : Hid (L[k]? = some y) := hy
      clear hy
      by_cases hxy : x = y
      · have HM : Hid (decide (x ∈ L) = true) := by show _ = _; rw [decide_eq_true_eq, hxy]; exact List.mem_of_getElem? HY.out
        have e : (x == y) = true := by simpa using hxy
        clear hxy
        go_wp2_with fail
        go_ret
        exact ⟨⟨_, rfl, by rw [HM.out]; simp⟩, (by repeat (first | exact Grew.refl _ | assumption | refine Grew.drew ?_ | refine Grew.alloc ?_ _ | refine Grew.setCell ?_ (by (try simp only [World.size_alloc, World.size_drew]); omega) _ | refine Grew.trans ?_ (by assumption)))⟩
      · have HX2 : Hid (x ∉ L.take (k + 1)) := by show ¬ _; rw [List.take_add_one, HY.out]; simp [hxy]; exact HX.out
        have e : (x == y) = false := by rw [beq_eq_false_iff_ne]; exact hxy
        clear hxy
        go_wp2_with fail
        go_roundw
        case rel => exact ⟨k + 1, by omega, rfl, by go_num, HX2.out, (by repeat (first | exact Grew.refl _ | assumption | refine Grew.drew ?_ | refine Grew.alloc ?_ _ | refine Grew.setCell ?_ (by (try simp only [World.size_alloc, World.size_drew]); omega) _ | refine Grew.trans ?_ (by assumption)))⟩
        case measure => simp [intOf]; omega
    · have HM : Hid (decide (x ∈ L) = false) := by
        show _ = _
        have := HX.out
        rw [List.take_of_length_le (by rw [← HN.out]; omega)] at this
        simpa using this
      go_wp2_with fail
      go_ret
      exact ⟨⟨_, rfl, by rw [HM.out]; rfl⟩, (by repeat (first | exact Grew.refl _ | assumption | refine Grew.drew ?_ | refine Grew.alloc ?_ _ | refine Grew.setCell ?_ (by (try simp only [World.size_alloc, World.size_drew]); omega) _ | refine Grew.trans ?_ (by assumption)))⟩
theorem containsI_any (bb off cap : Nat) (L : List Int) (x : Int) (n : Nat) (w : World) (hL : ListAt w bb off cap L) (hn : n = L.length) :
    Calls Tryd.prog 74 #[.slice (some ⟨bb, off, none⟩) n cap, .int .i64 x] w fun e w' => e = .returned (.bool (decide (x ∈ L))) ∧ Grew w w' := by
  have HL : Hid (ListAt w bb off cap L) := hL
  have HN : Hid (n = L.length) := hn
  clear hL hn
  go_enter Tryd.func74, Tryd.ntmps74
  go_wp2_with (go_at_call 77; refine (indexI_any bb off cap L x n _ HL.out HN.out).mono ?_; rintro e w1 ⟨⟨r, rfl, hr⟩, hb⟩; obtain ⟨hc, hf⟩ := hb.facts; have hz := hb.size; (try simp only [World.size_alloc, World.size_drew] at hz); (try (have hcq := fun o => hc (w.heap.size) o (by (try simp only [World.size_alloc, World.size_drew]); omega))); (try (have hq : w.heap.size < w1.heap.size := by omega)))
  go_ret
  exact ⟨rfl, (by repeat (first | exact Grew.refl _ | assumption | refine Grew.drew ?_ | refine Grew.alloc ?_ _ | refine Grew.setCell ?_ (by (try simp only [World.size_alloc, World.size_drew]); omega) _ | refine Grew.trans ?_ (by assumption)))⟩

/-- All tiles of a list are tiles. -/
def RngOk (N : Nat) (L : List Int) : Prop := ∀ (i : Nat) (x : Int), L[i]? = some x → 0 ≤ x ∧ x < N
/-- All are blocked, or all free; none twice. -/
def AskOk (lab : Nat → Int) (b : Bool) (L : List Int) : Prop := ∀ (i : Nat) (x : Int), L[i]? = some x → (decide (lab x.toNat = -1) = b) ∧ x ∉ L.take i

set_option maxRecDepth 100000 in
set_option maxHeartbeats 8000000 in
theorem ask_any (P L M N W H : Nat) (lab : Nat → Int) (bb off cap : Nat) (Ls : List Int) (b : Bool) (wrong : Value) (n : Nat) (w : World) (a : Addr) (hg : w.cell? ⟨1, 0, none⟩ = some (.iface 130 (.pointer (some a)))) (hR : RegAt w P L M N W H lab) (hN : N ≤ 1024) (hL : ListAt w bb off cap Ls) (hn : n = Ls.length) :
    Calls Tryd.prog 62 #[.pointer (some ⟨P, 0, none⟩), .slice (some ⟨bb, off, none⟩) n cap, .bool b, wrong] w fun e w' => ((e = .returned (.iface 130 (.pointer (some a))) ∧ ¬ RngOk N Ls) ∨ (e = .returned wrong ∧ RngOk N Ls ∧ ¬ AskOk lab b Ls) ∨ (e = .returned .nilIface ∧ RngOk N Ls ∧ AskOk lab b Ls)) ∧ Grew w w' := by
  have HL : Hid (ListAt w bb off cap Ls) := hL
  have HN : Hid (n = Ls.length) := hn
  have HR : Hid (RegAt w P L M N W H lab) := hR
  have hroom := hL.room
  have htop := hL.top
  have hlt := hL.lt
  have hP := hR.hP
  obtain ⟨K, c2⟩ := hR.r2
  have hltg := lt_of_cell hg
  rw [← hn] at hroom
  clear hL hn hR
  unfold maxLen at htop
  go_enter Tryd.func62, Tryd.ntmps62
  go_wp2_with fail
  go_loopw [8, 15] (fun s8 i wr => ∃ k : Nat, k ≤ n ∧ s8 = .nilIface ∧ i = .int .i64 k ∧ (∀ j x, j < k → Ls[j]? = some x → 0 ≤ x ∧ x < N) ∧ Grew w wr) (fun s8 i wr => n - (intOf i).toNat)
  case atStart => exact ⟨0, Nat.zero_le _, rfl, by simp, fun j x hj => by omega, (by repeat (first | exact Grew.refl _ | assumption | refine Grew.drew ?_ | refine Grew.alloc ?_ _ | refine Grew.setCell ?_ (by (try simp only [World.size_alloc, World.size_drew]); omega) _ | refine Grew.trans ?_ (by assumption)))⟩
  case round =>
    obtain ⟨k, hk, rfl, rfl, hX, hG⟩ := hrel
    have HX : Hid (∀ j x, j < k → Ls[j]? = some x → 0 ≤ x ∧ x < N) := hX
    have e2 := (hG.facts.1 P 2 hP).trans c2
    have eg := (hG.facts.1 _ _ hltg).trans hg
    have hzr := hG.size
    clear hX
    by_cases hlk : k < n
    · obtain ⟨y, hy⟩ : ∃ y, Ls[k]? = some y := ⟨Ls[k]'(by rw [← HN.out]; exact hlk), by simp⟩
      have hyc : wr.cell? ⟨bb, off + k, none⟩ = some (.int .i64 y) := (hG.facts.1 _ _ hlt).trans (HL.out.cs k y hy)
      have HY : Hid (Ls[k]? = some y) := hy
      clear hy
      by_cases h0 : 0 ≤ y
      · by_cases h1 : y < N
        · have HX2 : Hid (∀ j x, j < k + 1 → Ls[j]? = some x → 0 ≤ x ∧ x < N) := fun j x hj hx => by
            by_cases e : j = k
            · subst e; rw [HY.out] at hx; obtain rfl := Option.some.inj hx; exact ⟨h0, h1⟩
            · exact HX.out j x (by omega) hx
          have d0 : decide (y < 0) = false := by simpa using h0
          have d1 : decide ((N : Int) ≤ y) = false := by simpa using h1
          clear h0 h1
          go_wp2_with fail
          go_roundw
          case rel => exact ⟨k + 1, by omega, rfl, by go_num, HX2.out, (by repeat (first | exact Grew.refl _ | assumption | refine Grew.drew ?_ | refine Grew.alloc ?_ _ | refine Grew.setCell ?_ (by (try simp only [World.size_alloc, World.size_drew]); omega) _ | refine Grew.trans ?_ (by assumption)))⟩
          case measure => simp [intOf]; omega
        · have HB : Hid (¬ RngOk N Ls) := fun h => h1 (h k y HY.out).2
          have d0 : decide (y < 0) = false := by simpa using h0
          have d1 : decide ((N : Int) ≤ y) = true := by simpa using h1
          clear h0 h1
          go_wp2_with fail
          go_ret
          exact ⟨.inl ⟨rfl, HB.out⟩, (by repeat (first | exact Grew.refl _ | assumption | refine Grew.drew ?_ | refine Grew.alloc ?_ _ | refine Grew.setCell ?_ (by (try simp only [World.size_alloc, World.size_drew]); omega) _ | refine Grew.trans ?_ (by assumption)))⟩
      · have HB : Hid (¬ RngOk N Ls) := fun h => h0 (h k y HY.out).1
        have d0 : decide (y < 0) = true := by simpa using h0
        clear h0
        go_wp2_with fail
        go_ret
        exact ⟨.inl ⟨rfl, HB.out⟩, (by repeat (first | exact Grew.refl _ | assumption | refine Grew.drew ?_ | refine Grew.alloc ?_ _ | refine Grew.setCell ?_ (by (try simp only [World.size_alloc, World.size_drew]); omega) _ | refine Grew.trans ?_ (by assumption)))⟩
    · have HRg : Hid (RngOk N Ls) := fun i x hx => HX.out i x (by have := (List.getElem?_eq_some_iff.1 hx).1; rw [← HN.out] at this; omega) hx
      have HG : Hid (Grew w wr) := hG
      clear HX hk e2 eg
      go_wp2_with fail
      obtain ⟨wo, rfl⟩ : ∃ wo : World, wo = wr := ⟨_, rfl⟩
      go_loopw [8, 34] (fun s8 i wr => ∃ q : Nat, q ≤ n ∧ s8 = .nilIface ∧ i = .int .i64 q ∧ (∀ j x, j < q → Ls[j]? = some x → (decide (lab x.toNat = -1) = b) ∧ x ∉ Ls.take j) ∧ Grew w wr) (fun s8 i wr => n - (intOf i).toNat)
      case atStart => exact ⟨0, Nat.zero_le _, rfl, by simp, fun j x hj => by omega, HG.out.trans (by repeat (first | exact Grew.refl _ | assumption | refine Grew.drew ?_ | refine Grew.alloc ?_ _ | refine Grew.setCell ?_ (by (try simp only [World.size_alloc, World.size_drew]); omega) _ | refine Grew.trans ?_ (by assumption)))⟩
      case round =>
        obtain ⟨q, hq, rfl, rfl, hX, hG2⟩ := hrel
        have HX : Hid (∀ j x, j < q → Ls[j]? = some x → (decide (lab x.toNat = -1) = b) ∧ x ∉ Ls.take j) := hX
        have e2 := (hG2.facts.1 P 2 hP).trans c2
        have hzr2 := hG2.size
        clear hX
        by_cases hlq : q < n
        · obtain ⟨y, hy⟩ : ∃ y, Ls[q]? = some y := ⟨Ls[q]'(by rw [← HN.out]; exact hlq), by simp⟩
          obtain ⟨h0, h1⟩ := HRg.out q y hy
          obtain ⟨t, rfl⟩ : ∃ t : Nat, y = t := ⟨y.toNat, by omega⟩
          have hyc : wr.cell? ⟨bb, off + q, none⟩ = some (.int .i64 t) := (hG2.facts.1 _ _ hlt).trans (HL.out.cs q _ hy)
          have HY : Hid (Ls[q]? = some (t : Int)) := hy
          have htN : t < N := by omega
          obtain ⟨z, hz⟩ : ∃ z, z = lab t := ⟨_, rfl⟩
          have htc : wr.cell? ⟨L, t, none⟩ = some (.int .i64 z) := by rw [hz]; exact (HR.out.grew hG2).ls t htN
          have HZ : Hid (z = lab t) := hz
          have HT : Hid (q = (Ls.take q).length) := by show _ = _; rw [List.length_take, ← HN.out]; omega
          have HLr : Hid (ListAt wr bb off cap (Ls.take q)) := (HL.out.grew hG2).take q
          clear hy hz h0 h1
          cases hb1 : decide (z = -1) == b
          · have HB : Hid (¬ AskOk lab b Ls) := fun h => by
              have := (h q t HY.out).1
              simp only [Int.toNat_natCast, ← HZ.out] at this
              rw [this] at hb1; simp at hb1
            cases hzz : decide (z = -1)
            all_goals
              rw [hzz] at hb1
              have hzb : (z == -1) = _ := hzz
              cases b
              all_goals first
                | (simp at hb1; done)
                | (go_wp2_with fail
                   go_ret
                   exact ⟨.inr (.inl ⟨rfl, HRg.out, HB.out⟩), hG2.trans (by repeat (first | exact Grew.refl _ | assumption | refine Grew.drew ?_ | refine Grew.alloc ?_ _ | refine Grew.setCell ?_ (by (try simp only [World.size_alloc, World.size_drew]); omega) _ | refine Grew.trans ?_ (by assumption)))⟩)
          · have hb2 : decide (z = -1) = b := by simpa using hb1
            have HC : Hid (∀ wx, Grew wr wx → Calls Tryd.prog 74 #[.slice (some ⟨bb, off, none⟩) q cap, .int .i64 t] wx fun e w' => e = .returned (.bool (decide ((t : Int) ∈ Ls.take q))) ∧ Grew wx w') := fun wx g => containsI_any bb off cap (Ls.take q) t q wx (HLr.out.grew g) HT.out
            cases hin : decide ((t : Int) ∈ Ls.take q)
            · have HX2 : Hid (∀ j x, j < q + 1 → Ls[j]? = some x → (decide (lab x.toNat = -1) = b) ∧ x ∉ Ls.take j) := fun j x hj hx => by
                by_cases e : j = q
                · subst e; rw [HY.out] at hx; obtain rfl := Option.some.inj hx
                  exact ⟨by simp only [Int.toNat_natCast]; have h := HZ.out; subst h; exact hb2, by simpa using hin⟩
                · exact HX.out j x (by omega) hx
              rw [hin] at HC
              cases hzz : decide (z = -1)
              all_goals
                rw [hzz] at hb2
                have hzb : (z == -1) = _ := hzz
                subst hb2
                clear hb1
                go_wp2_with (go_at_call 74; refine (HC.out _ (by repeat (first | exact Grew.refl _ | assumption | refine Grew.drew ?_ | refine Grew.alloc ?_ _ | refine Grew.setCell ?_ (by (try simp only [World.size_alloc, World.size_drew]); omega) _ | refine Grew.trans ?_ (by assumption)))).mono ?_; rintro e w5 ⟨rfl, hb⟩; obtain ⟨hc, hf⟩ := hb.facts; have hz := hb.size; (try simp only [World.size_alloc, World.size_drew] at hz); (try (have hcq := fun o => hc (P) o (by (try simp only [World.size_alloc, World.size_drew]); omega))); (try (have hq : P < w5.heap.size := by omega)))
                go_roundw
                case rel => exact ⟨q + 1, by omega, rfl, by go_num, HX2.out, (by repeat (first | exact Grew.refl _ | assumption | refine Grew.drew ?_ | refine Grew.alloc ?_ _ | refine Grew.setCell ?_ (by (try simp only [World.size_alloc, World.size_drew]); omega) _ | refine Grew.trans ?_ (by assumption)))⟩
                case measure => simp [intOf]; omega
            · have HB : Hid (¬ AskOk lab b Ls) := fun h => (h q t HY.out).2 (by simpa using hin)
              rw [hin] at HC
              cases hzz : decide (z = -1)
              all_goals
                rw [hzz] at hb2
                have hzb : (z == -1) = _ := hzz
                subst hb2
                clear hb1
                go_wp2_with (go_at_call 74; refine (HC.out _ (by repeat (first | exact Grew.refl _ | assumption | refine Grew.drew ?_ | refine Grew.alloc ?_ _ | refine Grew.setCell ?_ (by (try simp only [World.size_alloc, World.size_drew]); omega) _ | refine Grew.trans ?_ (by assumption)))).mono ?_; rintro e w5 ⟨rfl, hb⟩; obtain ⟨hc, hf⟩ := hb.facts; have hz := hb.size; (try simp only [World.size_alloc, World.size_drew] at hz); (try (have hcq := fun o => hc (P) o (by (try simp only [World.size_alloc, World.size_drew]); omega))); (try (have hq : P < w5.heap.size := by omega)))
                go_ret
                exact ⟨.inr (.inl ⟨rfl, HRg.out, HB.out⟩), hG2.trans (by repeat (first | exact Grew.refl _ | assumption | refine Grew.drew ?_ | refine Grew.alloc ?_ _ | refine Grew.setCell ?_ (by (try simp only [World.size_alloc, World.size_drew]); omega) _ | refine Grew.trans ?_ (by assumption)))⟩
        · have HOk : Hid (AskOk lab b Ls) := fun i x hx => HX.out i x (by have := (List.getElem?_eq_some_iff.1 hx).1; rw [← HN.out] at this; omega) hx
          go_wp2_with fail
          go_ret
          exact ⟨.inr (.inr ⟨rfl, HRg.out, HOk.out⟩), hG2.trans (by repeat (first | exact Grew.refl _ | assumption | refine Grew.drew ?_ | refine Grew.alloc ?_ _ | refine Grew.setCell ?_ (by (try simp only [World.size_alloc, World.size_drew]); omega) _ | refine Grew.trans ?_ (by assumption)))⟩
end Go.Proofs.YtbgbfljbjpbinaaDoor

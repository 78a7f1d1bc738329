/- PlaneJoin returns true for every list of boxes, and its argument reads as before. Condition: package api's errors start as the program's text lays them (tied by the card). -/
import Derived.Test.YtlaiikahgioonaaDoorFrame
import Derived.Test.YtlaiikahgioonaaDoorLawG
import Derived.Test.YtlaiikahgioonaaDoorLawH
import Derived.Deep.Slices
import Derived.Deep.Fields
import Derived.Test.YtlaiikahgioonaaDoorCards
import Derived.Test.YtlaiikahgioonaaDoorTie
namespace Go.Proofs.YtlaiikahgioonaaDoor
set_option linter.unusedSimpArgs false
set_option linter.unusedVariables false
open Go.ChangeShapes Go.WideShapes Go.ChangeAt Go.RowKit

theorem four_open {H : Type} {enc : TypeId × Value → H} {P : Program} {w : World} {base : Nat} {spare : Nat → Bool} {held : Bool} {fuel : Nat} {t : TypeId} {f0 f1 f2 f3 : Field} {cs : List Value} {x : DataW H × List MemPlace} (hs : P.underlying t = some (.struct #[f0, f1, f2, f3])) (hone : Deep.oneCellFields P #[f0, f1, f2, f3] = true) (hC : P.cellsOf t = 4)
    (i0 : P.underlying f0.type = some (.int .i64)) (i1 : P.underlying f1.type = some (.int .i64)) (i2 : P.underlying f2.type = some (.int .i64)) (i3 : P.underlying f3.type = some (.int .i64)) (h : DataW.trod enc P w base spare held fuel t cs = some x) :
    ∃ a b c d : Int, cs = [.int .i64 a, .int .i64 b, .int .i64 c, .int .i64 d] := by
  obtain ⟨ys, n, _, _, hlen, hyl, hf⟩ := DataW.trod_struct hs h
  rw [hC] at hlen
  obtain ⟨o0, k0⟩ := Deep.hone_of hone 0 f0 rfl
  obtain ⟨o1, k1⟩ := Deep.hone_of hone 1 f1 rfl
  obtain ⟨o2, k2⟩ := Deep.hone_of hone 2 f2 rfl
  obtain ⟨o3, k3⟩ := Deep.hone_of hone 3 f3 rfl
  match cs, hlen, ys, hyl with
  | [c0, c1, c2, c3], _, [y0, y1, y2, y3], _ =>
    have h0 : DataW.trod enc P w base spare held n f0.type [c0] = some y0 := by simpa [o0, k0] using hf 0 f0 rfl
    have h1 : DataW.trod enc P w base spare held n f1.type [c1] = some y1 := by simpa [o1, k1] using hf 1 f1 rfl
    have h2 : DataW.trod enc P w base spare held n f2.type [c2] = some y2 := by simpa [o2, k2] using hf 2 f2 rfl
    have h3 : DataW.trod enc P w base spare held n f3.type [c3] = some y3 := by simpa [o3, k3] using hf 3 f3 rfl
    obtain ⟨a, e0, _⟩ := DataW.trod_int i0 h0
    obtain ⟨b, e1, _⟩ := DataW.trod_int i1 h1
    obtain ⟨c, e2, _⟩ := DataW.trod_int i2 h2
    obtain ⟨d, e3, _⟩ := DataW.trod_int i3 h3
    simp at e0 e1 e2 e3
    subst e0 e1 e2 e3
    exact ⟨a, b, c, d, rfl⟩

/-- A slice of boxes: empty, or its boxes lie in cells. -/
theorem boxes_open {H : Type} {enc : TypeId × Value → H} {W : World} {sp : Nat → Bool} {hd : Bool} {fuel : Nat} {v : Option Addr} {n cap : Nat} {x : DataW H × List MemPlace} (h : DataW.trod enc Tryd.prog W 0 sp hd fuel 55 [.slice v n cap] = some x) :
    n = 0 ∨ ∃ (bb off : Nat) (L : List B4), v = some ⟨bb, off, none⟩ ∧ n ≤ maxLen ∧ L.length = n ∧ BoxesAt W bb off L ∧ bb < W.heap.size := by
  rcases Deep.open_slice Tryd.underlying55 h with ⟨hcs, _⟩ | ⟨a, len, cap', m, k, D, Pl, hcs, hb, hl, hm, hmm, hx, hi⟩
  · left; simp at hcs; exact hcs.2.1
  · simp only [List.cons.injEq, Value.slice.injEq, and_true] at hcs
    obtain ⟨rfl, rfl, rfl⟩ := hcs
    by_cases hn : n = 0
    · exact .inl hn
    · right
      have hle : n ≤ m := by rw [hmm]; split <;> omega
      have key : ∀ i, i < n → ∃ b : B4, W.cell? (a.add (i * 4)) = some (.int .i64 b.x0) ∧ W.cell? (a.add (i * 4 + 1)) = some (.int .i64 b.y0) ∧ W.cell? (a.add (i * 4 + 2)) = some (.int .i64 b.x1) ∧ W.cell? (a.add (i * 4 + 3)) = some (.int .i64 b.y1) := by
        intro i hin
        obtain ⟨cs', hc, ht'⟩ := hi i (by omega)
        rw [show Tryd.prog.cellsOf 23 = 4 by kernel_rfl] at hc
        obtain ⟨p, q, r, s, rfl⟩ := four_open Tryd.underlying23 (by kernel_rfl) (by kernel_rfl) Tryd.underlying3 Tryd.underlying3 Tryd.underlying3 Tryd.underlying3 ht'
        obtain ⟨_, _, hat⟩ := World.cells?_some hc
        refine ⟨⟨p, q, r, s⟩, ?_, ?_, ?_, ?_⟩
        · have := hat 0 (by omega); rwa [Deep.add_add] at this
        · have := hat 1 (by omega); rwa [Deep.add_add] at this
        · have := hat 2 (by omega); rwa [Deep.add_add] at this
        · have := hat 3 (by omega); rwa [Deep.add_add] at this
      have hspot : a.spot = none := by
        obtain ⟨b, h0, _⟩ := key 0 (by omega)
        simp only [Nat.zero_mul, Addr.add, if_pos] at h0
        unfold World.cell? at h0
        split at h0
        · split at h0
          · cases h0
          · rename_i hns; simpa using hns
        · cases h0
      obtain ⟨bb, off, sp0⟩ := a
      simp only at hspot; subst hspot
      have hadd : ∀ j, (Addr.mk bb off none).add j = ⟨bb, off + j, none⟩ := fun j => by unfold Addr.add; split <;> simp [*]
      have : Inhabited B4 := ⟨⟨0, 0, 0, 0⟩⟩
      obtain ⟨F, hF⟩ := Deep.choose_lt key
      refine ⟨bb, off, (List.range n).map F, rfl, by omega, by simp, fun k b hb => ?_, ?_⟩
      · obtain ⟨hk, rfl⟩ : ∃ _ : k < n, b = F k := by
          rw [List.getElem?_map] at hb
          by_cases hk : k < n
          · simp [hk] at hb; exact ⟨hk, hb.symm⟩
          · simp [hk] at hb
        have := hF k hk
        simp only [hadd] at this
        exact this
      · obtain ⟨b, h0, _⟩ := key 0 (by omega)
        rw [hadd] at h0
        exact World.block_lt_of_cell? _ _ h0

theorem least_nat {p : Nat → Prop} (h : ∃ m, p m) : ∃ m, p m ∧ ∀ k, k < m → ¬ p k := by
  obtain ⟨m, hm⟩ := h
  induction m using Nat.strongRecOn with
  | _ m ih =>
    by_cases hk : ∃ k, k < m ∧ p k
    · obtain ⟨k, hk, hp⟩ := hk; exact ih k hk hp
    · exact ⟨m, hm, fun k hkm hp => hk ⟨k, hkm, hp⟩⟩

theorem planeJoin_any {W : World} {n cap : Nat} {v : Option Addr} (ad : Nat → Addr) (hE : Errs W ad) (h : n = 0 ∨ ∃ (bb off : Nat) (L : List B4), v = some ⟨bb, off, none⟩ ∧ n ≤ maxLen ∧ L.length = n ∧ BoxesAt W bb off L ∧ bb < W.heap.size) :
    Calls Tryd.prog 13 #[.slice v n cap] W fun e w' => e = .returned (.bool true) ∧ Grew W w' := by
  rcases h with rfl | ⟨bb, off, L, rfl, hm, hlen, hat, hbb⟩
  · exact planeJoin_none v cap W ad hE
  by_cases h2 : 200 < n
  · exact planeJoin_long _ n cap W h2 (by unfold maxLen at hm; omega)
  by_cases hr : ∀ b ∈ L, b.right = true
  · cases L with
    | nil => simp at hlen; subst hlen; exact planeJoin_none _ cap W ad hE
    | cons c L => exact planeJoin_right bb off cap n c _ (c :: L) W hat rfl hlen hbb (by omega) hr rfl
  · obtain ⟨b, hb, hbr⟩ : ∃ b : B4, b ∈ L ∧ b.right ≠ true := by
      apply Classical.byContradiction; intro hno; exact hr fun b hb => Classical.byContradiction fun h => hno ⟨b, hb, h⟩
    have hex : ∃ m : Nat, ∃ b : B4, L[m]? = some b ∧ b.right ≠ true := by
      obtain ⟨m, hm, e⟩ := List.getElem_of_mem hb
      exact ⟨m, b, by rw [List.getElem?_eq_getElem hm, e], hbr⟩
    obtain ⟨m, ⟨b, hb, hbr⟩, hmin⟩ : ∃ m : Nat, (∃ b : B4, L[m]? = some b ∧ b.right ≠ true) ∧ ∀ k, k < m → ¬ ∃ b : B4, L[k]? = some b ∧ b.right ≠ true := by
      exact least_nat hex
    refine planeJoin_bad bb off cap n L W ad hE hat hlen hbb (by omega) m ?_ (fun k b' hk hb' => Classical.byContradiction fun h => hmin k hk ⟨b', hb', h⟩) (fun b' hb' => ?_)
    · have := (List.getElem?_eq_some_iff.1 hb).1; omega
    · rw [hb] at hb'; obtain rfl := Option.some.inj hb'; simpa using hbr

theorem planeJoin_door (os : Os) (args : Array Value) : laidMetH Tryd.prog Rows.planeJoinRow.laid ((World.doorLaid Tryd.prog 400 os).forCall (fun _ _ => 0) ⟨#[], args, []⟩).memory :=
  laidMetH_of_parts3 (fuel := 8) (laidMet_of_run' 8 (by kernel_rfl) (by kernel_rfl)) (by kernel_rfl) (by kernel_rfl)

set_option maxRecDepth 100000 in
theorem planeJoin_lifted (os : Os) (started : os.Started) (H : Type) (enc : TypeId × Value → H) :
    ReturnsInHanded {} Tryd.checked os 13 .any (fun w args => (Rows.planeJoinSpec.pre enc Tryd.prog Tryd.f13 [] false w args ∧ laidMetH Tryd.prog Rows.planeJoinRow.laid w) ∧ sizedMet enc Tryd.prog Tryd.f13 (OpenSpec.ofChange Rows.planeJoinSpec) false w args)
      (Rows.planeJoinSpec.post enc Tryd.prog Tryd.f13 false true false false) := by
  refine returnsInHanded_of_change_and (C := Tryd.checked) (X := fun w _ => laidMetH Tryd.prog Rows.planeJoinRow.laid w) (fun _ _ _ hh h => h.of_heap hh) own started (by kernel_rfl) Tryd.func13
    (ChangeSpec.witness_shaped (enc := enc) (C := Tryd.checked) (os := os) (X := fun w _ => laidMetH Tryd.prog Rows.planeJoinRow.laid w) false (World.doorLaid Tryd.prog 400 os) #[.slice none 0 0] 8 rfl (World.shaped_of_RefB (by kernel_rfl) (by kernel_rfl)) (by kernel_rfl) (by kernel_rfl) (by kernel_rfl) (planeJoin_door os _)) ?_
  intro W base args ds gs before hval0 hW _ _ hL _
  have hval : ∀ (j : Nat) t v, Tryd.f13.params[j]? = some t → args[j]? = some v → Value.okWide Tryd.prog W .any base t v := hval0
  have hW' := hW
  obtain ⟨p, q, hA0, hV, rfl, hfz, hnd⟩ := hW
  have hA : DataW.TrodAll enc Tryd.prog W 0 (fun _ => true) true Tryd.f13.params.toList args.toList ds p := hA0
  rw [Tryd.params13] at hA hval
  obtain ⟨v0, d0, rfl, rfl, h0⟩ := trodAll_one hA
  obtain ⟨rfl, rfl⟩ := trodVars_none hV
  obtain ⟨x0, n0, c0, rfl⟩ := okWide_slice Tryd.underlying55 (hval 0 55 v0 rfl rfl)
  obtain ⟨fu, h0⟩ := h0
  have h1 := boxes_open h0
  obtain ⟨ad, hE⟩ := errs_of_laid hL
  clear hA0 hval0 hval h0 hA
  refine (planeJoin_any ad hE h1).mono fun e W' ⟨he, hg⟩ => ?_
  exact ⟨_, he, law_post rfl hW' rfl rfl (by rw [Tryd.params13]; intro t ht; simp only [List.mem_cons, List.not_mem_nil, or_false] at ht; rcases ht with rfl <;> exact ⟨by kernel_rfl, by decide⟩) hg⟩

theorem planeJoin_holds : Rows.PlaneJoinSaid :=
  OpenClaim.holds_of_wide 13 Tryd.f13 rfl rfl rfl rfl rfl rfl rfl ⟨rfl, rfl, rfl, rfl, rfl⟩ rfl rfl rfl rfl rfl (by kernel_rfl) Tryd.func13 (by kernel_rfl)
    (of_decide_eq_true (by kernel_rfl)) (by unfold Func.isWrapper; rw [if_neg (of_decide_eq_false (by kernel_rfl))]; exact ⟨rfl, rfl⟩)
    (fun os started H enc _ => planeJoin_lifted os started H enc)

theorem planeJoin_card : Rows.PlaneJoinCardSaid :=
  Claim7.holds_tied_plain_at .later [] [.sentinel, .sentinel, .sentinel, .sentinel, .sentinel, .sentinel, .sentinel, .sentinel, .sentinel, .sentinel] true (true, "654c390da7707ca8ab7c17b26ba99179f0dd33cffdb5c5ca3df430fb19258ac2") true
    planeJoin_holds (fun _ h => by cases h) (by kernel_rfl) (fun _ h => by cases h) planeJoin_row_tie rfl ⟨rfl, rfl⟩ (by kernel_rfl) rfl
    (fun f fn hf hfn => by
      obtain rfl : f = 13 := Option.some.inj ((show Tryd.prog.funcNamed "paddock/paddocklaw01.PlaneJoin" = some 13 by kernel_rfl).symm.trans hf) |>.symm
      obtain rfl : fn = Tryd.f13 := (Option.some.inj (Tryd.func13.symm.trans hfn)).symm
      exact ⟨by kernel_rfl, fun j t ht => by
          rw [Tryd.params13] at ht
          rcases j with _ | j
          · obtain rfl : t = 55 := by simpa using ht.symm
            exact (show Tryd.prog.wantsStandIn 55 = false by kernel_rfl)
          simp at ht⟩)
    (by kernel_rfl)
#print axioms planeJoin_card
end Go.Proofs.YtlaiikahgioonaaDoor

/- The walk of (*region.Regions).fill. Conditions: the region's cells. -/
import Derived.Test.YtbgbfljbjpbinaaDoorReg2
import Derived.WalkSmall
import Derived.Deep.AppendLies
import Derived.Deep.LoopGhost
namespace Go.Proofs.YtbgbfljbjpbinaaDoor
set_option linter.unusedSimpArgs false
set_option linter.unusedVariables false
open Go.RowKit

/-- v is a stack of the walk's own, at block g (not below E), that holds the tiles S. -/
def StackAt (w : World) (E g : Nat) (v : Value) (S : List Nat) : Prop := ∃ cap, v = .slice (some ⟨g, 0, none⟩) S.length cap ∧ Own w E v (S.map Int.ofNat)
theorem StackAt.own {w : World} {E g : Nat} {v : Value} {S : List Nat} (h : StackAt w E g v S) : Own w E v (S.map Int.ofNat) := by
  obtain ⟨cap, e, ho⟩ := h; exact ho
theorem StackAt.grew {w w' : World} {E g : Nat} {v : Value} {S : List Nat} (h : StackAt w E g v S) (k : Grew w w') : StackAt w' E g v S := by
  obtain ⟨cap, e, ho⟩ := h; exact ⟨cap, e, ho.grew k⟩
theorem StackAt.turn {C : Nat} {w w' : World} {E g : Nat} {v : Value} {S : List Nat} (h : StackAt w E g v S) (k : Turn C w w') (hC : C < E) : StackAt w' E g v S := by
  obtain ⟨cap, e, ho⟩ := h; exact ⟨cap, e, ho.turn k hC⟩
theorem StackAt.lt {w : World} {E g : Nat} {v : Value} {S : List Nat} (h : StackAt w E g v S) : E ≤ g ∧ g < w.heap.size := by
  obtain ⟨cap, rfl, ho⟩ := h
  exact ho.raw.lt g rfl
theorem StackAt.pop {w : World} {E g cap : Nat} {S : List Nat} {a : Nat} (h : StackAt w E g (.slice (some ⟨g, 0, none⟩) (S.length + 1) cap) (S ++ [a])) : StackAt w E g (.slice (some ⟨g, 0, none⟩) S.length cap) S := by
  obtain ⟨cap', e, ho⟩ := h
  refine ⟨cap, rfl, ?_⟩
  have h1 := ho.raw
  rw [List.map_append, List.map_append, List.length_append] at h1
  have h2 := ownsRow_pop (size := 1) (n := S.length) (xs := (S.map Int.ofNat).map (Value.int .i64)) (last := [.int .i64 a]) (by simp) (by simpa using h1)
  unfold Own
  simpa using h2
theorem StackAt.top {w : World} {E g cap : Nat} {S : List Nat} {a : Nat} (h : StackAt w E g (.slice (some ⟨g, 0, none⟩) (S.length + 1) cap) (S ++ [a])) : w.cell? ⟨g, S.length, none⟩ = some (.int .i64 a) := by
  obtain ⟨cap', e, ho⟩ := h
  rcases ho.raw.2 with ⟨e, _⟩ | ⟨b, cap2, cur, e2, hb, hgg, hc, hm, hs, ht⟩
  · cases e
  · simp only [Value.slice.injEq, Option.some.injEq, Addr.mk.injEq, and_true] at e2
    obtain ⟨rfl, _, rfl⟩ := e2
    rw [cell_of_row w g S.length cur 3 (0, 0) hgg]
    have hu : (((S ++ [a]).map Int.ofNat).map (Value.int .i64))[S.length]? = some (.int .i64 a) := by simp
    rw [← ht, List.getElem?_take] at hu
    split at hu
    · simpa using hu
    · cases hu
theorem StackAt.next {wr wx w4 : World} {E g g' cap Hs : Nat} {v : Value} {S : List Nat} {x : Nat} (h : StackAt wr E g v S) (hown : w4.ownsRow E 3 1 (.slice (some ⟨g', 0, none⟩) ((S.map Int.ofNat).length + 1) cap) ((S.map Int.ofNat).length + 1) ((S.map Int.ofNat).map (Value.int .i64) ++ [.int .i64 x])) (hg : wx.grownBy w4 v.ownBlock)
    (hat : v.ownBlock = some g' ∨ g' = Hs) (hHs : wx.heap.size = Hs) (k : Grew wr wx) (hE : E ≤ wr.heap.size) :
    StackAt w4 E g' (.slice (some ⟨g', 0, none⟩) ((S.map Int.ofNat).length + 1) cap) (S ++ [x]) ∧ Below E wr w4 ∧ (∀ bb o, bb < wr.heap.size → bb ≠ g → w4.cell? ⟨bb, o, none⟩ = wr.cell? ⟨bb, o, none⟩) ∧ (g' = g ∨ wr.heap.size ≤ g') := by
  have hs := k.size
  have hlt := h.lt
  obtain ⟨cap0, rfl, ho⟩ := h
  have hob : Value.ownBlock (.slice (some ⟨g, 0, none⟩) S.length cap0) = some g := rfl
  rw [hob] at hg hat
  refine ⟨⟨cap, by simp, ?_⟩, ?_, fun bb o h1 h2 => ?_, ?_⟩
  · have := Own.step (w := wr) (v := .slice none 0 0) hown
    simpa using this
  · exact Below.grown (k.below.mono hE) hg (by omega) (fun j hj => by obtain rfl := Option.some.inj hj; omega)
  · rw [hg.cell_far ⟨bb, o, none⟩ (by simp; omega) (by simp; omega)]
    exact k.facts.1 _ _ h1
  · rcases hat with e | e
    · left; exact (Option.some.inj e).symm
    · right; omega

theorem StackAt.room {w : World} {E g n cap : Nat} {S : List Nat} (h : StackAt w E g (.slice (some ⟨g, 0, none⟩) n cap) S) : n ≤ cap ∧ cap ≤ maxLen := by
  obtain ⟨cap', e, ho⟩ := h
  simp only [Value.slice.injEq, Option.some.injEq, true_and] at e
  obtain ⟨e1, e2⟩ := e
  rcases ho.raw.2 with ⟨e, _⟩ | ⟨b, cap2, cur, e2', hb, hgg, hc, hm, hs, ht⟩
  · cases e
  · simp only [Value.slice.injEq, Option.some.injEq, Addr.mk.injEq, and_true] at e2'
    obtain ⟨_, _, rfl⟩ := e2'
    simp at hc
    exact ⟨by omega, hm⟩
theorem StackAt.start (w : World) (t : Nat) : StackAt (w.alloc (.cells #[.int .i64 t] 3)) w.heap.size w.heap.size (.slice (some ⟨w.heap.size, 0, none⟩) 1 1) [t] := by
  refine ⟨1, rfl, ?_⟩
  unfold Own
  exact ⟨by simp, .inr ⟨w.heap.size, 1, #[.int .i64 t], rfl, Nat.le_refl _, (show (w.heap.push (.cells #[.int .i64 t] 3))[w.heap.size]? = _ from Array.getElem?_push_size), Nat.le_refl _, (by show 1 ≤ maxLen; decide), by simp, by simp⟩⟩
def lenOf : Value → Nat
  | .slice _ n _ => n
  | _ => 0

set_option maxRecDepth 100000 in
set_option maxHeartbeats 16000000 in
theorem fill_any (P L M N W H t : Nat) (label : Int) (lab : Nat → Int) (w : World) (hR : RegAt w P L M N W H lab) (hW : 1 ≤ W ∧ W ≤ 32) (hNW : N = W * H) (hN : N ≤ 1024) (ht : t < N) (hl0 : 0 ≤ label) (hl1 : label ≤ 1000000) :
    Calls Tryd.prog 76 #[.pointer (some ⟨P, 0, none⟩), .int .i64 t, .int .i64 label] w fun e w' => (∃ R : Nat → Bool, e = .returned (.int .i64 (passed R N).length) ∧ FillAt W N t label lab R [] (passed R N).length ∧ RegAt w' P L M N W H (fun j => if R j = true then label else lab j)) ∧ Turn L w w' := by
  have HR : Hid (RegAt w P L M N W H lab) := hR
  have HNW : Hid (N = W * H) := hNW
  obtain ⟨_, _, ⟨K, c2⟩, _, _, cf, hne, _, hP, hL⟩ := hR
  have hct := HR.out.ls t ht
  have hne' : L ≠ P := fun e => hne e.symm
  clear hNW
  obtain ⟨i0, hi0, hi1, hi2, hi3⟩ := info_parts infoInt
  go_enter Tryd.func76, Tryd.ntmps76
  go_wp2_with fail
  go_loopw [7, 8] (fun v nv wr => ∃ (R : Nat → Bool) (S : List Nat) (n g : Nat), nv = .int .i64 n ∧ FillAt W N t label lab R S n ∧ StackAt wr w.heap.size g v S ∧ RegAt wr P L M N W H (fun j => if R j = true then label else lab j) ∧ Turn L w wr) (fun v nv wr => 2 * (N - ((intOf nv).toNat + lenOf v)) + lenOf v)
  case atStart =>
    refine ⟨_, [t], 0, w.heap.size, by simp, FillAt.start ht, ?_, ?_, ((Turn.refl L w).setCell rfl _).alloc _⟩
    · have := StackAt.start (w.setCell ⟨L, t, none⟩ (.int .i64 label)) t
      rwa [World.size_setCell] at this
    · exact ((HR.out.set t ht label).congr fun j _ => by simp).grew ((Grew.refl _).alloc _)
  case round =>
    obtain ⟨R, S, n, g, rfl, hF, hS, hRr, hT⟩ := hrel
    have HF : Hid (FillAt W N t label lab R S n) := hF
    have HRr : Hid (RegAt wr P L M N W H (fun j => if R j = true then label else lab j)) := hRr
    have HT : Hid (Turn L w wr) := hT
    have hTz := hT.size
    have hcard : n + S.length ≤ N := by have := hF.ct; have := passed_le R N; omega
    clear hF hRr hT
    by_cases hSn : S = []
    · subst hSn
      obtain ⟨cap, rfl, _⟩ := hS
      have hn : n = (passed R N).length := by have := HF.out.ct; simpa using this
      subst hn
      go_wp2_with fail
      go_ret
      exact ⟨⟨R, rfl, HF.out, HRr.out⟩, HT.out⟩
    · obtain ⟨S', a, rfl⟩ : ∃ S' a, S = S' ++ [a] := ⟨S.dropLast, S.getLast hSn, (List.dropLast_concat_getLast hSn).symm⟩
      clear hSn
      have HS : Hid (StackAt wr w.heap.size g _ (S' ++ [a])) := hS
      obtain ⟨cap, rfl, _⟩ := hS
      obtain ⟨s, hs⟩ : ∃ s, s = S'.length := ⟨_, rfl⟩
      have HSl : Hid (s = S'.length) := hs
      have hlen : (S' ++ [a]).length = s + 1 := by rw [hs]; simp
      rw [hlen] at HS hcard ⊢
      have HS1 : Hid (StackAt wr w.heap.size g (.slice (some ⟨g, 0, none⟩) (S'.length + 1) cap) (S' ++ [a])) := by rw [← HSl.out]; exact HS.out
      have htop : wr.cell? ⟨g, s, none⟩ = some (.int .i64 a) := by rw [hs]; exact HS1.out.top
      have HSp : Hid (StackAt wr w.heap.size g (.slice (some ⟨g, 0, none⟩) s cap) S') := by
        have := HS1.out.pop
        rw [← HSl.out] at this; exact this
      have haN : a < N := HF.out.rN a (HF.out.st a (by simp))
      have hglt := HS1.out.lt
      have HFp : Hid (FillIn W N t label lab a 0 R S' (n + 1)) := HF.out.pop
      obtain ⟨hrm1, hrm2⟩ := HS1.out.room
      rw [← HSl.out] at hrm1
      clear hs hlen
      go_wp2_with fail
      (go_at_call 75; refine (next_any P L M N W H a _ _ (HRr.out.grew (by repeat (first | exact Grew.refl _ | assumption | refine Grew.drew ?_ | refine Grew.alloc ?_ _ | refine Grew.setCell ?_ (by (try simp only [World.size_alloc, World.size_drew]); omega) _ | refine Grew.trans ?_ (by assumption)))) hW hN haN).mono ?_; rintro e w2 ⟨⟨nv, rfl, ⟨ao, ncap, rfl, hnv⟩⟩, hb⟩; obtain ⟨hc, hf⟩ := hb.facts; have hz := hb.size; (try simp only [World.size_alloc, World.size_drew] at hz); (try (have hcq := fun o => hc (P) o (by (try simp only [World.size_alloc, World.size_drew]); omega))); (try (have hq : P < w2.heap.size := by omega)))
      have hG2 : Grew wr w2 := (by repeat (first | exact Grew.refl _ | assumption | refine Grew.drew ?_ | refine Grew.alloc ?_ _ | refine Grew.setCell ?_ (by (try simp only [World.size_alloc, World.size_drew]); omega) _ | refine Grew.trans ?_ (by assumption)))
      have hG2z := hG2.size
      have HNV : Hid (nbr W N a = [] ∨ ∃ bb, ao = some ⟨bb, 0, none⟩ ∧ wr.heap.size ≤ bb ∧ bb < w2.heap.size ∧ ∀ k x, (nbr W N a)[k]? = some x → w2.cell? ⟨bb, k, none⟩ = some (.int .i64 x)) := hnv
      clear hnv
      obtain ⟨ln, hln⟩ : ∃ ln, ln = (nbr W N a).length := ⟨_, rfl⟩
      rw [← hln]
      have HLN : Hid (ln = (nbr W N a).length) := hln
      have hln4 : ln ≤ 4 := by
        rw [hln]; unfold nbr; simp only [List.length_append]
        repeat' split
        all_goals simp
      clear hln
      have hM2 : Hid (RegAt w2 P L M N W H (fun j => if R j = true then label else lab j)) := HRr.out.grew hG2
      have hS2 : Hid (StackAt w2 w.heap.size g (.slice (some ⟨g, 0, none⟩) s cap) S') := HSp.out.grew hG2
      have hT2 : Hid (Turn L w w2) := HT.out.more hG2
      go_wp2_with fail
      obtain ⟨wo, rfl⟩ : ∃ wo : World, wo = wr := ⟨_, rfl⟩
      go_loopw [7, 41] (fun v i wr => ∃ (R : Nat → Bool) (S : List Nat) (g q : Nat), q ≤ ln ∧ s ≤ S.length ∧ i = .int .i64 q ∧ FillIn W N t label lab a q R S (n + 1) ∧ StackAt wr w.heap.size g v S ∧ RegAt wr P L M N W H (fun j => if R j = true then label else lab j) ∧ Turn L w wr ∧ w2.heap.size ≤ wr.heap.size ∧ (g < wo.heap.size ∨ w2.heap.size ≤ g) ∧ ∀ bb o, wo.heap.size ≤ bb → bb < w2.heap.size → wr.cell? ⟨bb, o, none⟩ = w2.cell? ⟨bb, o, none⟩) (fun v i wr => ln - (intOf i).toNat)
      case atStart => exact ⟨R, S', g, 0, Nat.zero_le _, Nat.le_of_eq HSl.out, by simp, HFp.out, hS2.out, hM2.out, hT2.out, Nat.le_refl _, .inl hglt.2, fun _ _ _ _ => rfl⟩
      case round =>
        clear HFp hS2 hM2 hT2 HS HS1 HSp HF HRr HT
        obtain ⟨R, S, g, q, hq, hsS, rfl, hF, hS, hRr, hT, hwz, hg2, hLk⟩ := hrel
        have HF : Hid (FillIn W N t label lab a q R S (n + 1)) := hF
        have HS : Hid (StackAt wr w.heap.size g _ S) := hS
        have HRr : Hid (RegAt wr P L M N W H (fun j => if R j = true then label else lab j)) := hRr
        have HT : Hid (Turn L w wr) := hT
        have HLk : Hid (∀ bb o, wo.heap.size ≤ bb → bb < w2.heap.size → wr.cell? ⟨bb, o, none⟩ = w2.cell? ⟨bb, o, none⟩) := hLk
        have hTz := hT.size
        have hlt2 := hS.lt
        have hP2 := hRr.hP
        obtain ⟨K2, cr2⟩ := hRr.r2
        have cfz := hRr.fz
        have hcard : n + 1 + S.length ≤ N := by have := hF.ct; have := passed_le R N; omega
        clear hF hS hRr hT hLk
        by_cases hlq : q < ln
        · obtain ⟨x, hx⟩ : ∃ x, (nbr W N a)[q]? = some x := ⟨(nbr W N a)[q]'(by rw [← HLN.out]; exact hlq), by simp⟩
          obtain ⟨k, rfl, hkN⟩ := nbr_mem hW.1 HNW.out haN (List.mem_of_getElem? hx)
          rcases HNV.out with hnil | ⟨bb, rfl, hb0, hb1, hbc⟩
          · exfalso; have := HLN.out; rw [hnil] at this; simp at this; omega
          have hxc : wr.cell? ⟨bb, q, none⟩ = some (.int .i64 k) := (HLk.out bb q hb0 hb1).trans (hbc q k hx)
          have HX : Hid ((nbr W N a)[q]? = some (k : Int)) := hx
          obtain ⟨y, hy⟩ : ∃ y, y = (if R k = true then label else lab k) := ⟨_, rfl⟩
          have hyc : wr.cell? ⟨L, k, none⟩ = some (.int .i64 y) := by rw [hy]; exact HRr.out.ls k hkN
          have HY : Hid (y = (if R k = true then label else lab k)) := hy
          clear hbc hx hy
          by_cases hy1 : y = -1
          · have HFn : Hid (FillIn W N t label lab a (q + 1) R S (n + 1)) := HF.out.skip (by omega) HX.out (.inl (by rw [← HY.out]; exact hy1))
            rw [hy1] at hyc
            clear hy1
            go_wp2_with fail
            go_roundw
            case rel => exact ⟨R, S, g, q + 1, by omega, hsS, by go_num, HFn.out, HS.out, HRr.out, HT.out, hwz, hg2, HLk.out⟩
            case measure => simp [intOf]; omega
          by_cases hy2 : y = label
          · have HFn : Hid (FillIn W N t label lab a (q + 1) R S (n + 1)) := HF.out.skip (by omega) HX.out (.inr (by rw [← HY.out]; exact hy2))
            have hyl : (label == -1) = false := by rw [beq_eq_false_iff_ne]; omega
            rw [hy2] at hyc
            clear hy1 hy2
            go_wp2_with fail
            go_roundw
            case rel => exact ⟨R, S, g, q + 1, by omega, hsS, by go_num, HFn.out, HS.out, HRr.out, HT.out, hwz, hg2, HLk.out⟩
            case measure => simp [intOf]; omega
          · have HFn : Hid (FillIn W N t label lab a (q + 1) (fun j => R j || decide (j = k)) (S ++ [k]) (n + 1)) := HF.out.push hkN HX.out (by rw [← HY.out]; exact hy1) (by rw [← HY.out]; exact hy2)
            have e1 : (y != -1) = true := by simpa using hy1
            have e2 : (y != label) = true := by simpa using hy2
            have HRk : Hid (RegAt (wr.setCell ⟨L, k, none⟩ (.int .i64 label)) P L M N W H (fun j => if (R j || decide (j = k)) = true then label else lab j)) := (HRr.out.set k hkN label).congr fun j _ => relabel_more j
            clear hy1 hy2
            go_wp2_with (at_builtin; refine wpList_append_lies _ rfl _ _ 28 rfl w.heap.size 3 i0 (.int .i64 0) 1 8 Tryd.underlying28 hi0 hi1 hi2 hi3 rfl (by decide) _ _ _ rfl ((HS.out.turn (Turn.setCell (Turn.refl L wr) rfl _) hL).own.raw.alloc _) ⟨_, 0, none⟩ 1 1 [.int .i64 k] rfl rfl ?c1 ?c2 (by decide) ?c3 ?c4 ?c5 _ rfl ?_)
            case c1 =>
              intro j u hj
              match j, hj with
              | 0, hj =>
                simp at hj; subst hj; simp [Addr.add]
                have e : (wr.setCell ⟨L, k, none⟩ (.int .i64 label)).heap.size = wr.heap.size := by simp
                rw [← e]
                generalize wr.setCell ⟨L, k, none⟩ (.int .i64 label) = wq
                simp
            case c2 => intro u hu; simp at hu; subst hu; rfl
            case c3 => simp; unfold maxLen; omega
            case c4 => simp; omega
            case c5 => simp; omega
            · intro g4 cap4 w4 hown' hgrow hat4 hlt4
              obtain ⟨hS4, hB4, hF4, hg4⟩ := (HS.out.turn (Turn.setCell (Turn.refl L wr) (p := ⟨L, k, none⟩) rfl (.int .i64 label)) hL).next (by simpa using hown') hgrow hat4 (by simp) ((Grew.refl _).alloc _) (by simpa using hTz)
              have HS4 : Hid (StackAt w4 w.heap.size g4 (.slice (some ⟨g4, 0, none⟩) (S.length + 1) cap4) (S ++ [k])) := by rw [List.length_map] at hS4; exact hS4
              have HR4 : Hid (RegAt w4 P L M N W H (fun j => if (R j || decide (j = k)) = true then label else lab j)) := HRk.out.below hB4 hP hL
              have HT4 : Hid (Turn L w w4) := (HT.out.setCell (p := ⟨L, k, none⟩) rfl (.int .i64 label)).below hB4 (Nat.le_refl _)
              have hz4 : w2.heap.size ≤ w4.heap.size := by have := hB4.size; simp at this; omega
              have hgg4 : g4 < wo.heap.size ∨ w2.heap.size ≤ g4 := by
                rcases hg4 with e | e
                · rw [e]; exact hg2
                · right; simp at e; omega
              have HLk4 : Hid (∀ bb o, wo.heap.size ≤ bb → bb < w2.heap.size → w4.cell? ⟨bb, o, none⟩ = w2.cell? ⟨bb, o, none⟩) := fun bb o h1 h2 => (hF4 bb o (by simp; omega) (by omega)).trans ((World.cell?_setCell_far _ _ _ _ (by simp; omega)).trans (HLk.out bb o h1 h2))
              clear hown' hgrow hat4 hS4 hB4 hF4 hg4
              go_wp2
              go_roundw
              case rel => exact ⟨_, _, g4, q + 1, by omega, by simp; omega, by go_num, HFn.out, HS4.out, HR4.out, HT4.out, hz4, hgg4, HLk4.out⟩
              case measure => simp [intOf]; omega
        · have hFd := HF.out.done (by rw [← HLN.out]; omega)
          have HFd : Hid (FillAt W N t label lab R S (n + 1)) := hFd
          obtain ⟨cap', rfl, _⟩ := HS.out
          have HS' : Hid (StackAt wr w.heap.size g (.slice (some ⟨g, 0, none⟩) S.length cap') S) := HS.out
          clear hFd
          go_wp2_with fail
          go_roundw
          case rel => exact ⟨R, S, n + 1, g, by go_num, HFd.out, HS'.out, HRr.out, HT.out⟩
          case measure => simp [intOf, lenOf]; omega
end Go.Proofs.YtbgbfljbjpbinaaDoor

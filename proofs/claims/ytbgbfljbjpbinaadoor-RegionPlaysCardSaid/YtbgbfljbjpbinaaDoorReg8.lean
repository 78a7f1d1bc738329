/- The walk of (*region.Regions).join: its loops, told step by step (and what it does to the map). Conditions: the region's cells, its map. -/
import Derived.Test.YtbgbfljbjpbinaaDoorReg7
import Derived.Maps.OwnOps
namespace Go.Proofs.YtbgbfljbjpbinaaDoor
set_option linter.unusedSimpArgs false
set_option linter.unusedVariables false
open Go.RowKit Go.Maps

/-- The least label beside a tile, of the first i neighbours. -/
inductive Lst (ns : List Int) (lab : Nat → Int) (t : Int) : Nat → Int → Prop
  | start : Lst ns lab t 0 t
  | skip {i k : Nat} {m : Int} : Lst ns lab t i m → ns[i]? = some (k : Int) → lab k = -1 → Lst ns lab t (i + 1) m
  | take {i k : Nat} {m : Int} : Lst ns lab t i m → ns[i]? = some (k : Int) → lab k ≠ -1 → Lst ns lab t (i + 1) (if lab k < m then lab k else m)
/-- The third loop of join. -/
inductive Jn (W N : Nat) (least : Int) (ns : List Int) (lab0 : Nat → Int) : Nat → (Nat → Int) → Prop
  | start : Jn W N least ns lab0 0 lab0
  | skip {i k : Nat} {lab : Nat → Int} : Jn W N least ns lab0 i lab → ns[i]? = some (k : Int) → k < N → lab k = -1 ∨ lab k = least → Jn W N least ns lab0 (i + 1) lab
  | fill {i k : Nat} {lab : Nat → Int} {R : Nat → Bool} : Jn W N least ns lab0 i lab → ns[i]? = some (k : Int) → k < N → lab k ≠ -1 → lab k ≠ least → FillAt W N k least lab R [] (passed R N).length → Jn W N least ns lab0 (i + 1) (fun j => if R j = true then least else lab j)
/-- The second loop of join: the neighbours' labels are taken out of the map, their sizes summed up. -/
inductive Sz (N : Nat) (ns : List Int) (t : Int) (lab0 : Nat → Int) (D0 : DataW Unit) : Nat → Int → DataW Unit → Prop
  | start : Sz N ns t lab0 D0 0 1 D0
  | skip {i k : Nat} {s : Int} {D : DataW Unit} : Sz N ns t lab0 D0 i s D → ns[i]? = some (k : Int) → k < N → (lab0 k = -1 ∨ lab0 k = t ∨ Maps.has D (.int .i64 (lab0 k)) = false) → Sz N ns t lab0 D0 (i + 1) s D
  | take {i k : Nat} {s c : Int} {D : DataW Unit} : Sz N ns t lab0 D0 i s D → ns[i]? = some (k : Int) → k < N → lab0 k ≠ -1 → lab0 k ≠ t → Maps.has D (.int .i64 (lab0 k)) = true → D.atKey (.int .i64 (lab0 k)) (.lit (.int .i64 0)) = .lit (.int .i64 c) → Sz N ns t lab0 D0 (i + 1) (RowKit.wrap64 (s + c)) (D.del (.int .i64 (lab0 k)))
theorem Lst.range {W H N t i : Nat} {lab : Nat → Int} {m : Int} (h : Lst (nbr W N t) lab t i m) (hW : 1 ≤ W) (hN : N = W * H) (ht : t < N) (h0 : LabOk N lab) : 0 ≤ m ∧ m < N := by
  induction h with
  | start => omega
  | skip _ _ _ ih => exact ih
  | take _ hk hl ih =>
    obtain ⟨k', e, hkN⟩ := nbr_mem hW hN ht (List.mem_of_getElem? hk)
    obtain rfl := Int.ofNat.inj e
    have := h0 _ hkN
    split <;> omega

set_option maxRecDepth 100000 in
set_option maxHeartbeats 16000000 in
theorem join_told (P L M N W H t nn : Nat) (lab : Nat → Int) (D : DataW Unit) (w : World) (hR : RegAt w P L M N W H lab) (hS : SizesAt w M nn D) (hW : 1 ≤ W ∧ W ≤ 32) (hNW : N = W * H) (hN : N ≤ 1024) (ht : t < N) (hlab : LabOk N lab) (hnn : nn ≤ 1000000) :
    Calls Tryd.prog 65 #[.pointer (some ⟨P, 0, none⟩), .int .i64 t] w fun e w' => (∃ (m s : Int) (lab2 : Nat → Int) (D2 : DataW Unit), e = .returned (.tuple #[]) ∧ Lst (nbr W N t) lab t (nbr W N t).length m ∧ Sz N (nbr W N t) t (fun j => if j = t then (t : Int) else lab j) D (nbr W N t).length s D2 ∧ Jn W N m (nbr W N t ++ [(t : Int)]) (fun j => if j = t then t else lab j) (nbr W N t ++ [(t : Int)]).length lab2 ∧ RegAt w' P L M N W H lab2 ∧ SizesAt w' M (nn + 1) (D2.put (.int .i64 m) (.lit (.int .i64 s)))) ∧ Turn2 L M w w' := by
  have HR : Hid (RegAt w P L M N W H lab) := hR
  have HS : Hid (SizesAt w M nn D) := hS
  have HNW : Hid (N = W * H) := hNW
  have HLO : Hid (LabOk N lab) := hlab
  obtain ⟨c0, c1, ⟨Kc, c2⟩, c3, -, cf, hne, ⟨hnm1, hnm2⟩, hP, hL⟩ := hR
  have hct := HR.out.ls t ht
  have hne' : L ≠ P := fun e => hne e.symm
  have hM := hS.lt
  have hln4 : (nbr W N t).length ≤ 4 := by
    unfold nbr; simp only [List.length_append]
    repeat' split
    all_goals simp
  obtain ⟨ln, hln⟩ : ∃ ln, ln = (nbr W N t).length := ⟨_, rfl⟩
  rw [← hln] at hln4 ⊢
  have HLN : Hid (ln = (nbr W N t).length) := hln
  clear hNW hS hlab hln
  obtain ⟨i0, hi0, hi1, hi2, hi3⟩ := info_parts infoInt
  go_enter Tryd.func65, Tryd.ntmps65
  go_wp2_with fail
  (go_at_call 75; refine (next_any P L M N W H t lab _ (HR.out.grew (by repeat (first | exact Grew.refl _ | assumption | refine Grew.drew ?_ | refine Grew.alloc ?_ _ | refine Grew.setCell ?_ (by (try simp only [World.size_alloc, World.size_drew]); omega) _ | refine Grew.trans ?_ (by assumption)))) hW hN ht).mono ?_; rintro e w1 ⟨⟨nv, rfl, ⟨ao, ncap, rfl, hnv⟩⟩, hb⟩; obtain ⟨hc, hf⟩ := hb.facts; have hz := hb.size; (try simp only [World.size_alloc, World.size_drew] at hz); (try (have hcq := fun o => hc (P) o (by (try simp only [World.size_alloc, World.size_drew]); omega))); (try (have hcq := fun o => hc (L) o (by (try simp only [World.size_alloc, World.size_drew]); omega))); (try (have hq : P < w1.heap.size := by omega)); (try (have hq : L < w1.heap.size := by omega)))
  have hG1 : Grew w w1 := (by repeat (first | exact Grew.refl _ | assumption | refine Grew.drew ?_ | refine Grew.alloc ?_ _ | refine Grew.setCell ?_ (by (try simp only [World.size_alloc, World.size_drew]); omega) _ | refine Grew.trans ?_ (by assumption)))
  have hz1 := hG1.size
  rw [← HLN.out]
  have HNV : Hid (nbr W N t = [] ∨ ∃ bb, ao = some ⟨bb, 0, none⟩ ∧ w.heap.size ≤ bb ∧ bb < w1.heap.size ∧ ∀ k x, (nbr W N t)[k]? = some x → w1.cell? ⟨bb, k, none⟩ = some (.int .i64 x)) := hnv
  have HR1 : Hid (RegAt w1 P L M N W H lab) := HR.out.grew hG1
  clear hnv
  go_wp2_with fail
  go_loopw [4, 22] (fun s4 i wr => ∃ (q : Nat) (m : Int), q ≤ ln ∧ s4 = .int .i64 m ∧ i = .int .i64 q ∧ Lst (nbr W N t) lab t q m ∧ Grew w1 wr) (fun s4 i wr => ln - (intOf i).toNat)
  case atStart => exact ⟨0, t, Nat.zero_le _, by simp, by simp, .start, (by repeat (first | exact Grew.refl _ | assumption | refine Grew.drew ?_ | refine Grew.alloc ?_ _ | refine Grew.setCell ?_ (by (try simp only [World.size_alloc, World.size_drew]); omega) _ | refine Grew.trans ?_ (by assumption)))⟩
  case round =>
    obtain ⟨q, m, hq, rfl, rfl, hLs, hG⟩ := hrel
    have HLs : Hid (Lst (nbr W N t) lab t q m) := hLs
    have HG : Hid (Grew w1 wr) := hG
    have HRr : Hid (RegAt wr P L M N W H lab) := HR1.out.grew hG
    obtain ⟨Kr, cr2⟩ := HRr.out.r2
    have hPr := HRr.out.hP
    clear hLs
    by_cases hlq : q < ln
    · obtain ⟨x, hx⟩ : ∃ x, (nbr W N t)[q]? = some x := ⟨(nbr W N t)[q]'(by rw [← HLN.out]; exact hlq), by simp⟩
      obtain ⟨k, rfl, hkN⟩ := nbr_mem hW.1 HNW.out ht (List.mem_of_getElem? hx)
      rcases HNV.out with hnil | ⟨bb, rfl, hb0, hb1, hbc⟩
      · exfalso; have := HLN.out; rw [hnil] at this; simp at this; omega
      have hxc : wr.cell? ⟨bb, q, none⟩ = some (.int .i64 k) := (hG.facts.1 bb q hb1).trans (hbc q k hx)
      have HX : Hid ((nbr W N t)[q]? = some (k : Int)) := hx
      obtain ⟨y, hy⟩ : ∃ y, y = lab k := ⟨_, rfl⟩
      have hyc : wr.cell? ⟨L, k, none⟩ = some (.int .i64 y) := by rw [hy]; exact HRr.out.ls k hkN
      have HY : Hid (y = lab k) := hy
      clear hbc hx hy
      by_cases hy1 : y = -1
      · have HLn : Hid (Lst (nbr W N t) lab t (q + 1) m) := .skip HLs.out HX.out (by rw [← HY.out]; exact hy1)
        rw [hy1] at hyc
        clear hy1
        go_wp2_with fail
        go_roundw
        case rel => exact ⟨q + 1, m, by omega, rfl, by go_num, HLn.out, (by repeat (first | exact Grew.refl _ | assumption | refine Grew.drew ?_ | refine Grew.alloc ?_ _ | refine Grew.setCell ?_ (by (try simp only [World.size_alloc, World.size_drew]); omega) _ | refine Grew.trans ?_ (by assumption)))⟩
        case measure => simp [intOf]; omega
      · have HLn : Hid (Lst (nbr W N t) lab t (q + 1) (if y < m then y else m)) := by have := Lst.take HLs.out HX.out (by rw [← HY.out]; exact hy1); rw [← HY.out] at this; exact this
        have e1 : (y != -1) = true := by simpa using hy1
        obtain ⟨m2, hm2⟩ : ∃ m2, (if y < m then y else m) = m2 := ⟨_, rfl⟩
        rw [hm2] at HLn
        clear hy1
        go_wp2_with fail
        go_roundw
        case rel => exact ⟨q + 1, m2, by omega, by first | rfl | simp [hm2], by go_num, HLn.out, (by repeat (first | exact Grew.refl _ | assumption | refine Grew.drew ?_ | refine Grew.alloc ?_ _ | refine Grew.setCell ?_ (by (try simp only [World.size_alloc, World.size_drew]); omega) _ | refine Grew.trans ?_ (by assumption)))⟩
        case measure => simp [intOf]; omega
    · obtain rfl : q = ln := by omega
      have hmr := HLs.out.range hW.1 HNW.out ht HLO.out
      have HR2 : Hid (RegAt (wr.setCell ⟨L, t, none⟩ (.int .i64 t)) P L M N W H (fun j => if j = t then t else lab j)) := HRr.out.set t ht t
      have HS2 : Hid (SizesAt (wr.setCell ⟨L, t, none⟩ (.int .i64 t)) M nn D) := (HS.out.grew (hG1.trans HG.out)).turn (Turn.setCell (Turn.refl L wr) rfl _) hnm2
      have HT2 : Hid (Turn2 L M w (wr.setCell ⟨L, t, none⟩ (.int .i64 t))) := ((((hG1.trans HG.out).turn L).setCell rfl _).two M)
      have hctr : wr.cell? ⟨L, t, none⟩ = some (.int .i64 (lab t)) := HRr.out.ls t ht
      have hfzr := HRr.out.fz
      clear HNV
      go_wp2_with fail
      (go_at_call 75; refine (next_any P L M N W H t _ _ (HR2.out.grew (by repeat (first | exact Grew.refl _ | assumption | refine Grew.drew ?_ | refine Grew.alloc ?_ _ | refine Grew.setCell ?_ (by (try simp only [World.size_alloc, World.size_drew]); omega) _ | refine Grew.trans ?_ (by assumption)))) hW hN ht).mono ?_; rintro e w2 ⟨⟨nv2, rfl, ⟨ao2, ncap2, rfl, hnv2⟩⟩, hb⟩; obtain ⟨hc, hf⟩ := hb.facts; have hz := hb.size; (try simp only [World.size_alloc, World.size_drew] at hz))
      rw [← HLN.out]
      have hG2 : Grew (wr.setCell ⟨L, t, none⟩ (.int .i64 t)) w2 := (by repeat (first | exact Grew.refl _ | assumption | refine Grew.drew ?_ | refine Grew.alloc ?_ _ | refine Grew.setCell ?_ (by (try simp only [World.size_alloc, World.size_drew]); omega) _ | refine Grew.trans ?_ (by assumption)))
      have hG2z := hG2.size
      simp only [World.size_setCell] at hG2z hnv2
      have HNV2 : Hid (nbr W N t = [] ∨ ∃ bb, ao2 = some ⟨bb, 0, none⟩ ∧ wr.heap.size ≤ bb ∧ bb < w2.heap.size ∧ ∀ k x, (nbr W N t)[k]? = some x → w2.cell? ⟨bb, k, none⟩ = some (.int .i64 x)) := hnv2
      have HR3 : Hid (RegAt w2 P L M N W H (fun j => if j = t then t else lab j)) := HR2.out.grew hG2
      have HS3 : Hid (SizesAt w2 M nn D) := HS2.out.grew hG2
      have HT3 : Hid (Turn2 L M w w2) := HT2.out.more hG2
      have hTz := HT3.out.size
      have hGz := HG.out.size
      clear hnv2 HR2 HS2 HT2 hctr hfzr
      go_wp2_with fail
      obtain ⟨wo, rfl⟩ : ∃ wo : World, wo = wr := ⟨_, rfl⟩
      go_loopw [5, 50] (fun s5 i wr => ∃ (q' : Nat) (s : Int) (D' : DataW Unit), q' ≤ q ∧ s5 = .int .i64 s ∧ (Lit.int .i64 s).wf = true ∧ i = .int .i64 q' ∧ Sz N (nbr W N t) t (fun j => if j = t then (t : Int) else lab j) D q' s D' ∧ SizesAt wr M nn D' ∧ Turn M w2 wr) (fun s5 i wr => q - (intOf i).toNat)
      case atStart => exact ⟨0, 1, D, Nat.zero_le _, rfl, by decide, by simp, .start, HS3.out.grew (by repeat (first | exact Grew.refl _ | assumption | refine Grew.drew ?_ | refine Grew.alloc ?_ _ | refine Grew.setCell ?_ (by (try simp only [World.size_alloc, World.size_drew]); omega) _ | refine Grew.trans ?_ (by assumption))), Grew.turn (by repeat (first | exact Grew.refl _ | assumption | refine Grew.drew ?_ | refine Grew.alloc ?_ _ | refine Grew.setCell ?_ (by (try simp only [World.size_alloc, World.size_drew]); omega) _ | refine Grew.trans ?_ (by assumption))) M⟩
      case round =>
        obtain ⟨q', s, D', hq', rfl, hws, rfl, hSz, hSr, hT⟩ := hrel
        have HSz : Hid (Sz N (nbr W N t) t (fun j => if j = t then (t : Int) else lab j) D q' s D') := hSz
        have HSr : Hid (SizesAt wr M nn D') := hSr
        have HT : Hid (Turn M w2 wr) := hT
        have HW : Hid ((Lit.int .i64 s).wf = true) := hws
        have HRq : Hid (RegAt wr P L M N W H (fun j => if j = t then t else lab j)) := HR3.out.turn hT (fun e => hnm1 e.symm) (fun e => hnm2 e.symm)
        obtain ⟨Kq, dq2⟩ := HRq.out.r2
        have dq3 := HRq.out.r3
        have hPq := HRq.out.hP
        have hTqz := hT.size
        clear hSr hT hws hSz
        by_cases hlq' : q' < q
        · obtain ⟨x, hx⟩ : ∃ x, (nbr W N t)[q']? = some x := ⟨(nbr W N t)[q']'(by rw [← HLN.out]; exact hlq'), by simp⟩
          obtain ⟨k, rfl, hkN⟩ := nbr_mem hW.1 HNW.out ht (List.mem_of_getElem? hx)
          rcases HNV2.out with hnil | ⟨bb, rfl, hb0, hb1, hbc⟩
          · exfalso; have := HLN.out; rw [hnil] at this; simp at this; omega
          have hxc : wr.cell? ⟨bb, q', none⟩ = some (.int .i64 k) := (HT.out.facts.1 bb q' hb1 (by omega)).trans (hbc q' k hx)
          obtain ⟨y, hy⟩ : ∃ y, y = (if k = t then (t : Int) else lab k) := ⟨_, rfl⟩
          have hyc : wr.cell? ⟨L, k, none⟩ = some (.int .i64 y) := by rw [hy]; exact HRq.out.ls k hkN
          have hyr : -1 ≤ y ∧ y < N := by
            rw [hy]; have := HLO.out k hkN
            split <;> omega
          have HX2 : Hid ((nbr W N t)[q']? = some (k : Int)) := hx
          have HY2 : Hid ((if k = t then (t : Int) else lab k) = y) := hy.symm
          clear hbc hx hy
          by_cases hy1 : y = -1
          · have HSn : Hid (Sz N (nbr W N t) t (fun j => if j = t then (t : Int) else lab j) D (q' + 1) s D') := .skip HSz.out HX2.out hkN (.inl (HY2.out.trans hy1))
            rw [hy1] at hyc
            clear hy1 hyr
            go_wp2_with fail
            go_roundw
            case rel => exact ⟨q' + 1, s, D', by omega, rfl, HW.out, by go_num, HSn.out, HSr.out, HT.out⟩
            case measure => simp [intOf]; omega
          by_cases hy2 : y = t
          · have HSn : Hid (Sz N (nbr W N t) t (fun j => if j = t then (t : Int) else lab j) D (q' + 1) s D') := .skip HSz.out HX2.out hkN (.inr (.inl (HY2.out.trans hy2)))
            rw [hy2] at hyc
            clear hy1 hy2 hyr
            go_wp2_with fail
            go_roundw
            case rel => exact ⟨q' + 1, s, D', by omega, rfl, HW.out, by go_num, HSn.out, HSr.out, HT.out⟩
            case measure => simp [intOf]; omega
          have e1 : (y == -1) = false := by rw [beq_eq_false_iff_ne]; exact hy1
          have e2 : (y == (t : Int)) = false := by rw [beq_eq_false_iff_ne]; exact hy2
          have hwf : (Lit.int .i64 y).wf = true := WalkArith.wf_i64 (by omega)
          have HN2 : Hid (y ≠ -1 ∧ y ≠ (t : Int)) := ⟨hy1, hy2⟩
          clear hy1 hy2 hyr
          cases hh : Maps.has D' (.int .i64 y)
          · have HSn : Hid (Sz N (nbr W N t) t (fun j => if j = t then (t : Int) else lab j) D (q' + 1) s D') := .skip HSz.out HX2.out hkN (.inr (.inr (by show Maps.has D' (.int .i64 (if k = t then (t : Int) else lab k)) = false; rw [HY2.out]; exact hh)))
            go_wp2_with (at_lookup; refine wpList_lookup_own_ok_int _ rfl _ _ 102 rfl 3 3 .i64 (int_keyed Tryd.underlying3) Tryd.underlying102 Tryd.underlying3 (by rfl) M nn D' rfl HSr.out.raw _ _ rfl (keyOf_int_mk Tryd.underlying3 hwf) ?_; intro c hat hwc)
            go_roundw
            case rel => exact ⟨q' + 1, s, D', by omega, rfl, HW.out, by go_num, HSn.out, HSr.out, HT.out⟩
            case measure => simp [intOf]; omega
          · go_wp2_with (first | (at_lookup; refine wpList_lookup_own_ok_int _ rfl _ _ 102 rfl 3 3 .i64 (int_keyed Tryd.underlying3) Tryd.underlying102 Tryd.underlying3 (by rfl) M nn D' rfl HSr.out.raw _ _ rfl (keyOf_int_mk Tryd.underlying3 hwf) ?_; intro c hat hwc) | (at_delete; refine wpList_delete_own _ rfl _ _ 102 3 rfl 3 (int_keyed Tryd.underlying3) Tryd.underlying102 _ M nn D' rfl HSr.out.raw _ _ rfl (keyOf_int_mk Tryd.underlying3 hwf) ?_; intro w5 hown5 hturn5))
            have HS5 : Hid (SizesAt w5 M nn (D'.del (.int .i64 y))) := hown5
            have hg5 := hturn5.grown
            have HT5 : Hid (Turn M w2 w5) := HT.out.trans ⟨hg5.os, hg5.tape, hg5.output, hg5.size, fun i hi hn => hg5.block i hi (by simpa using hn)⟩
            clear hown5 hturn5 hg5
            have HSn : Hid (Sz N (nbr W N t) t (fun j => if j = t then (t : Int) else lab j) D (q' + 1) (RowKit.wrap64 (s + c)) (D'.del (.int .i64 y))) := by
              have := Sz.take (c := c) HSz.out HX2.out hkN (by show (if k = t then (t : Int) else lab k) ≠ -1; rw [HY2.out]; exact HN2.out.1) (by show (if k = t then (t : Int) else lab k) ≠ t; rw [HY2.out]; exact HN2.out.2) (by show Maps.has D' (.int .i64 (if k = t then (t : Int) else lab k)) = true; rw [HY2.out]; exact hh) (by show D'.atKey (.int .i64 (if k = t then (t : Int) else lab k)) _ = _; rw [HY2.out]; exact hat)
              rw [HY2.out] at this
              exact this
            go_roundw
            case rel => exact ⟨q' + 1, _, _, by omega, rfl, RowKit.wrap64_wf _, by go_num, HSn.out, HS5.out, HT5.out⟩
            case measure => simp [intOf]; omega
        · have HSe2 : Hid (Sz N (nbr W N t) t (fun j => if j = t then (t : Int) else lab j) D q s D') := by
            have e' : q' = q := by omega
            rw [← e']; exact HSz
          have HS4 : Hid (SizesAt wr M nn D') := HSr.out
          have HT4 : Hid (Turn2 L M w wr) := HT3.out.trans ⟨HT.out.os, HT.out.tape, HT.out.output, HT.out.size, fun i hi _ h2 => HT.out.block i hi h2⟩
          clear HNV2
          go_wp2_with fail
          (go_at_call 75; refine (next_own P L M N W H t _ _ (HRq.out.grew (by repeat (first | exact Grew.refl _ | assumption | refine Grew.drew ?_ | refine Grew.alloc ?_ _ | refine Grew.setCell ?_ (by (try simp only [World.size_alloc, World.size_drew]); omega) _ | refine Grew.trans ?_ (by assumption)))) hW hN ht).mono ?_; rintro e w3 ⟨⟨nv3, rfl, hnv3⟩, hb⟩; obtain ⟨hc, hf⟩ := hb.facts; have hz := hb.size; (try simp only [World.size_alloc, World.size_drew] at hz))
          have HO3 : Hid (Own w3 wr.heap.size nv3 (nbr W N t)) := hnv3
          have hG3 : Grew wr w3 := (by repeat (first | exact Grew.refl _ | assumption | refine Grew.drew ?_ | refine Grew.alloc ?_ _ | refine Grew.setCell ?_ (by (try simp only [World.size_alloc, World.size_drew]); omega) _ | refine Grew.trans ?_ (by assumption)))
          have hG3z := hG3.size
          clear hnv3
          go_wp2_with (at_builtin; refine wpList_append_own _ rfl _ _ 28 rfl wr.heap.size 3 i0 (.int .i64 0) 1 8 Tryd.underlying28 hi0 hi1 hi2 hi3 rfl (by decide) _ _ _ rfl (HO3.out.raw.alloc _) ⟨_, 0, none⟩ 1 1 [.int .i64 t] rfl rfl ?c1 ?c2 ?c3 ?c4 ?c5 ?_)
          case c1 =>
            intro j u hj
            match j, hj with
            | 0, hj => simp at hj; subst hj; simp [Addr.add]
          case c2 => intro u hu; simp at hu; subst hu; rfl
          case c3 => rw [← HLN.out]; unfold maxLen; omega
          case c4 => rw [← HLN.out]; omega
          case c5 => simp; omega
          · intro v4 w4 hown' hgrow _
            obtain ⟨hO4, hG4, hB4⟩ := HO3.out.nextG (a := wr) hown' hgrow ((Grew.refl _).alloc _) hG3 (Nat.le_refl _) hG3z
            have HN4 : Hid (NewInts w4 v4 (nbr W N t ++ [(t : Int)]) wr.heap.size) := hO4.newInts (Nat.le_refl _)
            have HG4 : Hid (Grew wr w4) := hG4
            clear hown' hgrow hO4 hG4 hB4
            obtain ⟨ao4, cap4, rfl, hv4⟩ := HN4.out
            have hl5 : (nbr W N t ++ [(t : Int)]).length = q + 1 := by rw [List.length_append, ← HLN.out]; rfl
            have HL5 : Hid ((nbr W N t ++ [(t : Int)]).length = q + 1) := hl5
            rw [hl5]
            have HNV4 : Hid (nbr W N t ++ [(t : Int)] = [] ∨ ∃ bb, ao4 = some ⟨bb, 0, none⟩ ∧ wr.heap.size ≤ bb ∧ bb < w4.heap.size ∧ ∀ k x, (nbr W N t ++ [(t : Int)])[k]? = some x → w4.cell? ⟨bb, k, none⟩ = some (.int .i64 x)) := hv4
            have HR4 : Hid (RegAt w4 P L M N W H (fun j => if j = t then t else lab j)) := HRq.out.grew HG4.out
            have HS5 : Hid (SizesAt w4 M nn D') := HS4.out.grew HG4.out
            have HT5 : Hid (Turn2 L M w w4) := HT4.out.more HG4.out
            have hG4z := HG4.out.size
            have hwz := HT4.out.size
            clear hv4 hl5 HN4 HG4
            go_wp2
            obtain ⟨wp, rfl⟩ : ∃ wp : World, wp = wr := ⟨_, rfl⟩
            go_loopw [94] (fun i wr => ∃ (p : Nat) (lab2 : Nat → Int), p ≤ q + 1 ∧ i = .int .i64 p ∧ Jn W N m (nbr W N t ++ [(t : Int)]) (fun j => if j = t then t else lab j) p lab2 ∧ RegAt wr P L M N W H lab2 ∧ Turn L w4 wr) (fun i wr => q + 1 - (intOf i).toNat)
            case atStart => exact ⟨0, _, Nat.zero_le _, by simp, .start, HR4.out.grew (by repeat (first | exact Grew.refl _ | assumption | refine Grew.drew ?_ | refine Grew.alloc ?_ _ | refine Grew.setCell ?_ (by (try simp only [World.size_alloc, World.size_drew]); omega) _ | refine Grew.trans ?_ (by assumption))), Grew.turn (by repeat (first | exact Grew.refl _ | assumption | refine Grew.drew ?_ | refine Grew.alloc ?_ _ | refine Grew.setCell ?_ (by (try simp only [World.size_alloc, World.size_drew]); omega) _ | refine Grew.trans ?_ (by assumption))) L⟩
            case round =>
              obtain ⟨p, lab2, hp, rfl, hJ, hRr, hT⟩ := hrel
              have HJ : Hid (Jn W N m (nbr W N t ++ [(t : Int)]) (fun j => if j = t then t else lab j) p lab2) := hJ
              have HRj : Hid (RegAt wr P L M N W H lab2) := hRr
              have HTj : Hid (Turn L w4 wr) := hT
              obtain ⟨Kj, jr2⟩ := hRr.r2
              have hPj := hRr.hP
              have hTjz := hT.size
              clear hJ hRr hT
              by_cases hlp : p < q + 1
              · obtain ⟨x, hx⟩ : ∃ x, (nbr W N t ++ [(t : Int)])[p]? = some x := ⟨(nbr W N t ++ [(t : Int)])[p]'(by rw [HL5.out]; exact hlp), by simp⟩
                obtain ⟨k, rfl, hkN⟩ : ∃ k : Nat, x = k ∧ k < N := by
                  rcases List.mem_append.1 (List.mem_of_getElem? hx) with h | h
                  · exact nbr_mem hW.1 HNW.out ht h
                  · simp at h; exact ⟨t, h, ht⟩
                rcases HNV4.out with hnil | ⟨bb, rfl, hb0, hb1, hbc⟩
                · simp at hnil
                have hxc : wr.cell? ⟨bb, p, none⟩ = some (.int .i64 k) := (HTj.out.facts.1 bb p hb1 (by omega)).trans (hbc p k hx)
                have HX : Hid ((nbr W N t ++ [(t : Int)])[p]? = some (k : Int)) := hx
                obtain ⟨y, hy⟩ : ∃ y, y = lab2 k := ⟨_, rfl⟩
                have hyc : wr.cell? ⟨L, k, none⟩ = some (.int .i64 y) := by rw [hy]; exact HRj.out.ls k hkN
                have HY : Hid (y = lab2 k) := hy
                clear hbc hx hy
                by_cases hy1 : y = -1
                · have HJn : Hid (Jn W N m (nbr W N t ++ [(t : Int)]) (fun j => if j = t then t else lab j) (p + 1) lab2) := .skip HJ.out HX.out hkN (.inl (by rw [← HY.out]; exact hy1))
                  rw [hy1] at hyc
                  clear hy1
                  go_wp2_with fail
                  go_roundw
                  case rel => exact ⟨p + 1, lab2, by omega, by go_num, HJn.out, HRj.out, HTj.out⟩
                  case measure => simp [intOf]; omega
                by_cases hy2 : y = m
                · have HJn : Hid (Jn W N m (nbr W N t ++ [(t : Int)]) (fun j => if j = t then t else lab j) (p + 1) lab2) := .skip HJ.out HX.out hkN (.inr (by rw [← HY.out]; exact hy2))
                  have e1 : (m == -1) = false := by rw [beq_eq_false_iff_ne]; omega
                  rw [hy2] at hyc
                  clear hy1 hy2
                  go_wp2_with fail
                  go_roundw
                  case rel => exact ⟨p + 1, lab2, by omega, by go_num, HJn.out, HRj.out, HTj.out⟩
                  case measure => simp [intOf]; omega
                · have e1 : (y != -1) = true := by simpa using hy1
                  have e2 : (y != m) = true := by simpa using hy2
                  have HY2 : Hid (lab2 k ≠ -1 ∧ lab2 k ≠ m) := by rw [← HY.out]; exact ⟨hy1, hy2⟩
                  clear hy1 hy2
                  go_wp2_with fail
                  go_at_call 76
                  refine (fill_any P L M N W H k m lab2 _ (HRj.out.grew (by repeat (first | exact Grew.refl _ | assumption | refine Grew.drew ?_ | refine Grew.alloc ?_ _ | refine Grew.setCell ?_ (by (try simp only [World.size_alloc, World.size_drew]); omega) _ | refine Grew.trans ?_ (by assumption)))) hW HNW.out hN hkN hmr.1 (by omega)).mono ?_
                  rintro e w6 ⟨⟨R, rfl, hF6, hR6⟩, hT6⟩
                  have HJn : Hid (Jn W N m (nbr W N t ++ [(t : Int)]) (fun j => if j = t then t else lab j) (p + 1) (fun j => if R j = true then m else lab2 j)) := .fill HJ.out HX.out hkN HY2.out.1 HY2.out.2 hF6
                  have HR6 : Hid (RegAt w6 P L M N W H (fun j => if R j = true then m else lab2 j)) := hR6
                  have HT6 : Hid (Turn L w4 w6) := (HTj.out.more (by repeat (first | exact Grew.refl _ | assumption | refine Grew.drew ?_ | refine Grew.alloc ?_ _ | refine Grew.setCell ?_ (by (try simp only [World.size_alloc, World.size_drew]); omega) _ | refine Grew.trans ?_ (by assumption)))).trans hT6
                  clear hF6 hR6 hT6
                  go_wp2_with fail
                  go_roundw
                  case rel => exact ⟨p + 1, _, by omega, by go_num, HJn.out, HR6.out, HT6.out⟩
                  case measure => simp [intOf]; omega
              · obtain rfl : p = q + 1 := by omega
                have hSe : SizesAt wr M nn D' := HS5.out.turn HTj.out hnm2
                have HSe : Hid (SizesAt wr M nn D') := hSe
                have jr3 := HRj.out.r3
                have hwm : (Lit.int .i64 m).wf = true := WalkArith.wf_i64 (by omega)
                clear hSe
                go_wp2_with (at_mapUpdate; refine wpList_mapUpdate_own _ rfl _ _ _ 102 rfl 3 3 (int_keyed Tryd.underlying3) Tryd.underlying102 _ M nn D' rfl HSe.out.raw (by unfold maxLen; omega) _ _ _ rfl rfl (keyOf_int_mk Tryd.underlying3 hwm) _ [] (plainElem_int Tryd.underlying3 HW.out) ?_; intro w7 hown7 hgrow7)
                have fin : (∃ (m s : Int) (lab2 : Nat → Int) (D2 : DataW Unit), Ending.returned (.tuple #[]) = Ending.returned (.tuple #[]) ∧ Lst (nbr W N t) lab t q m ∧ Sz N (nbr W N t) t (fun j => if j = t then (t : Int) else lab j) D q s D2 ∧ Jn W N m (nbr W N t ++ [(t : Int)]) (fun j => if j = t then t else lab j) (nbr W N t ++ [(t : Int)]).length lab2 ∧ RegAt w7 P L M N W H lab2 ∧ SizesAt w7 M (nn + 1) (D2.put (.int .i64 m) (.lit (.int .i64 s)))) ∧ Turn2 L M w w7 :=
                  ⟨⟨m, s, lab2, _, rfl, HLs.out, HSe2.out, by rw [HL5.out]; exact HJ.out, HRj.out.map hgrow7, hown7⟩, (HT5.out.trans (HTj.out.two M)).map hgrow7⟩
                refine bodyPost_end (v := .tuple #[]) (by simp [results, Tryd.results65, go_sem, *]) rfl ?_
                first
                  | exact fin
                  | simpa using fin
end Go.Proofs.YtbgbfljbjpbinaaDoor

/- A region that draws its order: which operations stay apart is asked once a region, not once an operation. No conditions of its own. -/
import Derived.OrdersHeld
import Derived.Deep.RegionHeld3
namespace Go.Proofs.YtbgbfljbjpbinaaDoor
set_option linter.unusedSimpArgs false
set_option linter.unusedVariables false

/-- Any two operations wait for each other, or stay apart. -/
def apartAll (md : Region.Mode) (ops : Array Oper) : Bool :=
  (List.range ops.size).all fun i => (List.range ops.size).all fun j => match ops[i]?, ops[j]? with
    | some oi, some oj => j == i || oj.after.any (fun e => Region.binds md e && e.on == i) || oi.after.any (fun e => Region.binds md e && e.on == j) || oi.apart ops oj
    | _, _ => true
structure Calm (md : Region.Mode) (ops : Array Oper) : Prop where
  ns : Region.noSelect ops = true
  ap : apartAll md ops = true
theorem Calm.free {md : Region.Mode} {ops : Array Oper} (h : Calm md ops) {i : Nat} {oi : Oper} {listed : Array Bool} (hi : ops[i]? = some oi) (ha : oi.after.all (fun e => !Region.binds md e || listed.getD e.on false) = true) : Region.free md ops listed i = true := by
  have h1 := h.ap
  unfold apartAll at h1
  simp only [List.all_eq_true, List.mem_range] at h1
  have h2 := h1 i (Array.getElem?_eq_some_iff.1 hi).1
  unfold Region.free
  rw [hi]
  simp only [List.all_eq_true, List.mem_range]
  intro j hj
  have h3 := h2 j hj
  rw [hi] at h3
  cases hoj : ops[j]? with
  | none => simp
  | some oj =>
    rw [hoj] at h3
    simp only [Bool.or_eq_true] at h3 ⊢
    rcases h3 with ((h3 | h3) | h3) | h3
    · exact .inl (.inl h3)
    · exact .inr (.inl h3)
    · obtain ⟨e, he, hb⟩ := Array.any_eq_true'.1 h3
      simp only [Bool.and_eq_true, beq_iff_eq] at hb
      have h4 := Array.all_eq_true_iff_forall_mem.1 ha e he
      rw [hb.1] at h4
      simp only [Bool.not_true, Bool.false_or] at h4
      rw [hb.2] at h4
      refine .inl (.inr ?_)
      rw [Array.getD_eq_getD_getElem?] at h4 ⊢
      cases hl : listed[j]? with
      | none => simp [hl] at h4
      | some x => simp [hl] at h4 ⊢; exact h4
    · exact .inr (.inr h3)
theorem ready_has {md : Region.Mode} {ops : Array Oper} {i : Nat} {oi : Oper} {listed : Array Bool} (hi : ops[i]? = some oi) (hl : listed.getD i true = false) (ha : oi.after.all (fun e => !Region.binds md e || listed.getD e.on false) = true) : (Region.ready md ops listed).contains i = true := by
  unfold Region.ready
  rw [List.contains_iff_mem, List.mem_filter]
  refine ⟨List.mem_range.2 (Array.getElem?_eq_some_iff.1 hi).1, ?_⟩
  rw [hl, hi]
  simpa using ha
/-- Take number i first, in a region that is calm. -/
theorem wpAnyH_calm {P : Program} {ops : Array Oper} {Q : Exit → Act → World → Prop} {md : Region.Mode} {S : World → Prop} {i : Nat} {oi : Oper} {v : Value} {fuel : Nat} {listed : Array Bool} {a : Act} {w : World} (hC : Calm md ops) (hi : ops[i]? = some oi)
    (hl : listed.getD i true = false) (ha : oi.after.all (fun e => !Region.binds md e || listed.getD e.on false) = true)
    (hQ : ∀ c a w, Q (.panic c) (a.put oi.dst v) w → Q (.panic c) a w) (hy : YieldsIf P ops S oi v a) (hS : S w)
    (h : wpAnyH P md ops Q S fuel (listed.setIfInBounds i true) (a.put oi.dst v) w) : wpAnyH P md ops Q S (fuel + 1) listed a w :=
  wpAnyH_take hi hC.ns (hC.free hi ha) (ready_has hi hl ha) hQ hy hS h
theorem wpAnyH_asked {P : Program} {ops : Array Oper} {Q : Exit → Act → World → Prop} {md : Region.Mode} {S : World → Prop} {fuel : Nat} {listed : Array Bool} {a : Act} {w : World} (h1 : Region.noSelect ops = true) (h2 : apartAll md ops = true) (h : Calm md ops → wpAnyH P md ops Q S fuel listed a w) : wpAnyH P md ops Q S fuel listed a w := h ⟨h1, h2⟩
end Go.Proofs.YtbgbfljbjpbinaaDoor

/- What every row of this seat needs round its walk: the listed errors out of the row's condition, struct parameters opened, the row's post closed. No conditions of its own. -/
import Derived.Test.YtbgbfljbjpbinaaDoorNum
import Derived.ProofKit
import Derived.LaidMore
import Derived.OpenShut
import Derived.Stop.Joined
import Derived.Lib.SmallJoins
import Derived.MakeChecks
import Derived.SevenTiedAt
namespace Go.Proofs.YtbgbfljbjpbinaaDoor
set_option linter.unusedSimpArgs false
set_option linter.unusedVariables false
open Go.ChangeShapes Go.WideShapes Go.ChangeAt Go.RowKit

theorem own : ownKnob Tryd.prog.godebug = none := by kernel_rfl
theorem laidOut : laidOutB Tryd.prog = true := by kernel_rfl
theorem cellsT : Tryd.prog.cellsOf 155 = 1 := by kernel_rfl
theorem cellsS : Tryd.prog.cellsOf 9 = 1 := by kernel_rfl
theorem starS : "*" ++ "errors.errorString" = "*errors.errorString" := by decide
theorem rowT (u : TypeId) (h : Tryd.prog.typeName? 3 u = some "*errors.errorString") : u = 130 :=
  typeName_ptr_named (nm := "errors.errorString") (by rw [starS]; kernel_rfl) (by kernel_rfl) (by decide) u (by rw [starS]; exact h)

abbrev sentD (text : List UInt8) : DataW Unit := .iface "*errors.errorString" (.ptr (.agg [.lit (.string text)]))

set_option maxRecDepth 100000 in
/-- A list of sentinels, all of one type: their addresses, no two alike. -/
theorem laid_list {W : World} :
    ∀ (l : List (String × Nat × List UInt8)) (ps : List MemPlace),
      (∀ x ∈ l, Tryd.prog.globalNamed x.1 = some x.2.1 ∧ (Tryd.prog.globals[x.2.1]?).map (·.type) = some 35) →
      DataW.LaidVars Tryd.prog W (l.map fun x => (x.1, sentD x.2.2)) ps → ps.Nodup →
      (∀ b off, MemPlace.cell b off ∈ ps → (∃ c t, W.heap[b]? = some (.cells c t (0, 0))) ∧ ∀ u v, W.cell? ⟨b, off, none⟩ = some (.iface u v) → Value.okWide Tryd.prog W .any 0 u v) →
      ∃ al : List Addr, al.length = l.length ∧ al.Nodup ∧ (∀ a ∈ al, MemPlace.cell a.block a.off ∈ ps) ∧
        ∀ (i : Nat) (x : String × Nat × List UInt8) (a : Addr), l[i]? = some x → al[i]? = some a → W.cell? ⟨x.2.1, 0, none⟩ = some (.iface 130 (.pointer (some a))) ∧ ∃ c t, W.heap[a.block]? = some (.cells c t (0, 0)) := by
  intro l
  induction l with
  | nil => intro ps _ _ _ _; exact ⟨[], rfl, List.nodup_nil, fun a h => (by cases h), fun i x a h => by simp at h⟩
  | cons x r ih =>
    intro ps hx hl hnd hrows
    obtain ⟨n, g, text⟩ := x
    obtain ⟨g0, t0, cs0, f0, p0, q0, hg0, ht0, hv0, hd0, hq, e0⟩ := hl
    obtain ⟨hg, ht⟩ : Tryd.prog.globalNamed n = some g ∧ (Tryd.prog.globals[g]?).map (·.type) = some 35 := hx _ (List.mem_cons_self ..)
    obtain rfl := Option.some.inj (hg.symm.trans hg0)
    obtain rfl := Option.some.inj (ht.symm.trans ht0)
    subst e0
    obtain ⟨l0⟩ := cs0
    have ok0 : ∀ u v, l0 = [.iface u v] → Value.okWide Tryd.prog W .any 0 u v := fun u v e => by
      subst e
      exact (hrows g 0 (by simp [MemPlace.row])).2 u v (by simpa using World.var?_cell hg hv0 0)
    obtain ⟨a0, s0, e, hc0, hs0, hz0, e'⟩ := errorString_of_trod Tryd.underlying35 rowT Tryd.underlying130 Tryd.underlying155 rfl rfl Tryd.underlying9 cellsT cellsS hd0 ok0
    have e : l0 = [.iface 130 (.pointer (some a0))] := e
    subst e
    subst e'
    have hnd2 : q0.Nodup := (List.nodup_append.1 hnd).2.1
    obtain ⟨al, hlen, hn, hin, hall⟩ := ih q0 (fun y hy => hx y (List.mem_cons_of_mem _ hy)) hq hnd2 (fun b off hm => hrows b off (List.mem_append_right _ hm))
    have hself : MemPlace.cell a0.block a0.off ∈ MemPlace.row a0 1 := by simp [MemPlace.row]
    refine ⟨a0 :: al, by simp [hlen], List.nodup_cons.2 ⟨fun hm => ?_, hn⟩, fun a ha => ?_, fun i y a hy ha => ?_⟩
    · have h1 := hin _ hm
      exact (List.nodup_append.1 hnd).2.2 _ (List.mem_append_right _ hself) _ h1 rfl
    · rcases List.mem_cons.1 ha with rfl | ha
      · exact List.mem_append_left _ (List.mem_append_right _ hself)
      · exact List.mem_append_right _ (hin a ha)
    · cases i with
      | zero =>
        simp at hy ha
        subst hy; subst ha
        exact ⟨by simpa using World.var?_cell hg hv0 0, (hrows a0.block a0.off (List.mem_append_left _ (List.mem_append_right _ hself))).1⟩
      | succ i => exact hall i y a (by simpa using hy) (by simpa using ha)

def errPos : List Nat := [6, 0, 1, 2, 3, 4, 5, 7, 8, 9]
def errList : List (String × Nat × List UInt8) := [("paddock/api.ErrRange", 1, [112, 97, 100, 100, 111, 99, 107, 58, 32, 114, 97, 110, 103, 101]), ("paddock/api.ErrFull", 2, [112, 97, 100, 100, 111, 99, 107, 58, 32, 102, 117, 108, 108]), ("paddock/api.ErrNone", 3, [112, 97, 100, 100, 111, 99, 107, 58, 32, 110, 111, 110, 101]), ("paddock/api.ErrExists", 4, [112, 97, 100, 100, 111, 99, 107, 58, 32, 101, 120, 105, 115, 116, 115]), ("paddock/api.ErrKind", 5, [112, 97, 100, 100, 111, 99, 107, 58, 32, 107, 105, 110, 100]), ("paddock/api.ErrState", 6, [112, 97, 100, 100, 111, 99, 107, 58, 32, 115, 116, 97, 116, 101]), ("paddock/api.ErrForm", 0, [112, 97, 100, 100, 111, 99, 107, 58, 32, 102, 111, 114, 109]), ("paddock/api.ErrBlocked", 7, [112, 97, 100, 100, 111, 99, 107, 58, 32, 98, 108, 111, 99, 107, 101, 100]), ("paddock/api.ErrPath", 8, [112, 97, 100, 100, 111, 99, 107, 58, 32, 112, 97, 116, 104]), ("paddock/api.ErrGoal", 9, [112, 97, 100, 100, 111, 99, 107, 58, 32, 103, 111, 97, 108])]
abbrev laid10 : List (String × DataW Unit) := [("paddock/api.ErrRange", Rows.laid_paddock_api_ErrRange), ("paddock/api.ErrFull", Rows.laid_paddock_api_ErrFull), ("paddock/api.ErrNone", Rows.laid_paddock_api_ErrNone), ("paddock/api.ErrExists", Rows.laid_paddock_api_ErrExists), ("paddock/api.ErrKind", Rows.laid_paddock_api_ErrKind), ("paddock/api.ErrState", Rows.laid_paddock_api_ErrState), ("paddock/api.ErrForm", Rows.laid_paddock_api_ErrForm), ("paddock/api.ErrBlocked", Rows.laid_paddock_api_ErrBlocked), ("paddock/api.ErrPath", Rows.laid_paddock_api_ErrPath), ("paddock/api.ErrGoal", Rows.laid_paddock_api_ErrGoal)]
theorem errs_of_laid {W : World} (h : laidMetH Tryd.prog laid10 W) : ∃ ad, Errs W ad := by
  rw [MakeChecks.laidMetH_plain _ _ _ (by kernel_rfl)] at h
  obtain ⟨ps, hl, hnd, hrows⟩ := h
  obtain ⟨al, hlen, hn, _, hall⟩ := laid_list errList ps (by
    intro x hx
    simp only [errList, List.mem_cons, List.not_mem_nil, or_false] at hx
    rcases hx with rfl | rfl | rfl | rfl | rfl | rfl | rfl | rfl | rfl | rfl <;> exact ⟨by kernel_rfl, by kernel_rfl⟩) hl hnd hrows
  have h10 : al.length = 10 := hlen
  have hget : ∀ g, g < 10 → ∃ x a, errList[errPos.getD g 0]? = some x ∧ x.2.1 = g ∧ al[errPos.getD g 0]? = some a := fun g hg => by
    have hp : ∀ g, g < 10 → errPos.getD g 0 < 10 ∧ (errList[errPos.getD g 0]?).map (·.2.1) = some g := by decide
    obtain ⟨h1, h2⟩ := hp g hg
    obtain ⟨x, hx, hxg⟩ := Option.map_eq_some_iff.1 h2
    exact ⟨x, al[errPos.getD g 0]'(by omega), hx, hxg, by simp⟩
  have hd : ∀ g a, al[errPos.getD g 0]? = some a → (al[errPos.getD g 0]?).getD default = a := fun g a h => by rw [h]; rfl
  refine ⟨fun g => (al[errPos.getD g 0]?).getD default, fun g hg => ?_, fun g hg => ?_, fun g k hg hk hne he => ?_⟩
  · obtain ⟨x, a, h1, h2, h3⟩ := hget g hg
    have := (hall _ x a h1 h3).1
    rw [h2] at this
    rw [hd g a h3]; exact this
  · obtain ⟨x, a, h1, h2, h3⟩ := hget g hg
    rw [hd g a h3]; exact (hall _ x a h1 h3).2
  · obtain ⟨x, a, h1, h2, h3⟩ := hget g hg
    obtain ⟨y, b, k1, k2, k3⟩ := hget k hk
    rw [hd g a h3, hd k b k3] at he
    subst he
    have hp : ∀ g, g < 10 → ∀ k, k < 10 → errPos.getD g 0 = errPos.getD k 0 → g = k := by decide
    obtain ⟨i1, e1⟩ := List.getElem?_eq_some_iff.1 h3
    obtain ⟨i2, e2⟩ := List.getElem?_eq_some_iff.1 k3
    exact hne (hp g hg k hk ((List.getElem_inj hn).1 (e1.trans e2.symm)))

/-! ### struct parameters by value -/
set_option maxRecDepth 100000 in
theorem box_open {H : Type} {enc : TypeId × Value → H} {W : World} {base b0 : Nat} {sp : Nat → Bool} {hd : Bool} {v : Value} {d : DataW H} {p : List MemPlace} (hv : Value.okWide Tryd.prog W .any b0 25 v) (h : DataW.Trod enc Tryd.prog W base sp hd 25 v d p) :
    ∃ a b c e : Int, v = .agg #[.int .i64 a, .int .i64 b, .int .i64 c, .int .i64 e] := by
  obtain ⟨v0, v1, v2, v3, y0, y1, y2, y3, n, rfl, _, _, h0, h1, h2, h3⟩ := Joins.open_agg4 Tryd.underlying25 (by kernel_rfl) (by kernel_rfl) hv h
  obtain ⟨a, e0, _⟩ := DataW.trod_int Tryd.underlying3 h0
  obtain ⟨b, e1, _⟩ := DataW.trod_int Tryd.underlying3 h1
  obtain ⟨c, e2, _⟩ := DataW.trod_int Tryd.underlying3 h2
  obtain ⟨e, e3, _⟩ := DataW.trod_int Tryd.underlying3 h3
  simp at e0 e1 e2 e3
  subst e0 e1 e2 e3
  exact ⟨a, b, c, e, rfl⟩
set_option maxRecDepth 100000 in
theorem point_open {H : Type} {enc : TypeId × Value → H} {W : World} {base b0 : Nat} {sp : Nat → Bool} {hd : Bool} {v : Value} {d : DataW H} {p : List MemPlace} (hv : Value.okWide Tryd.prog W .any b0 33 v) (h : DataW.Trod enc Tryd.prog W base sp hd 33 v d p) :
    ∃ a b : Int, v = .agg #[.int .i64 a, .int .i64 b] := by
  obtain ⟨v0, v1, y0, y1, n, rfl, _, _, h0, h1⟩ := Joins.open_agg2 Tryd.underlying33 (by kernel_rfl) (by kernel_rfl) hv h
  obtain ⟨a, e0, _⟩ := DataW.trod_int Tryd.underlying3 h0
  obtain ⟨b, e1, _⟩ := DataW.trod_int Tryd.underlying3 h1
  simp at e0 e1
  subst e0 e1
  exact ⟨a, b, rfl⟩

/-! ### the post of a law -/
theorem trodAll_stays {H : Type} {enc : TypeId × Value → H} {W W' : World} (hb : Below W.heap.size W W') :
    ∀ (ts : List TypeId) (vs : List Value) (ds : List (DataW H)) (ps : List MemPlace), (∀ t ∈ ts, Tryd.prog.readableRec t = true ∧ t < Tryd.prog.types.size) →
      DataW.TrodAll enc Tryd.prog W 0 (fun _ => true) true ts vs ds ps → (∀ x ∈ ps, x.block < W.heap.size) → DataW.TrodAll enc Tryd.prog W' 0 (fun b => decide (b < W.heap.size)) true ts vs ds ps := by
  intro ts
  induction ts with
  | nil => intro vs ds ps _ h _; cases vs <;> cases ds <;> first | exact h | cases h
  | cons t ts ih =>
    intro vs ds ps hr h hlt
    cases vs with
    | nil => cases h
    | cons v vs =>
      cases ds with
      | nil => cases h
      | cons d ds =>
        obtain ⟨p, q, h1, h2, rfl⟩ := h
        obtain ⟨r1, r2⟩ := hr t (List.mem_cons_self ..)
        exact ⟨p, q, Below.trod laidOut r1 r2 h1 hb (fun x hx => hlt x (List.mem_append_left _ hx)), ih vs ds q (fun t ht => hr t (List.mem_cons_of_mem _ ht)) h2 (fun x hx => hlt x (List.mem_append_right _ hx)), rfl⟩

theorem law_post {H : Type} {enc : TypeId × Value → H} {s : ChangeSpec} {f : Func} {W W' : World} {args : Array Value} {ds : List (DataW H)} {before : List MemPlace}
    (hv : s.vars = []) (hW : DataW.Whole enc Tryd.prog f.params.toList s.vars false W args.toList ds [] before)
    (hs : s.fn H (ds ++ []) = { results := [.lit (.bool true)], args := ds }) (hrt : f.resultTypes = #[4])
    (hr : ∀ t ∈ f.params.toList, Tryd.prog.readableRec t = true ∧ t < Tryd.prog.types.size) (hg : Grew W W') : s.post enc Tryd.prog f false true false false W args (.bool true) W' := by
  have hW0 := hW
  obtain ⟨p, q, hA, hV, rfl, hz, hn⟩ := hW
  have hq : q = [] := by rw [hv] at hV; exact hV
  subst hq
  refine ⟨ds, [], _, [], p, [], hW0, ?_, ?_, ?_, hg.below.frame _, fun h => by cases h⟩
  · rw [hs, hrt]; exact trodAll_mk1 (shut_bool Tryd.underlying4 true)
  · rw [hs]; exact trodAll_stays hg.below _ _ _ _ hr hA (fun x hx => hW0.lt x (List.mem_append_left _ hx))
  · rw [hs, hv]; rfl
end Go.Proofs.YtbgbfljbjpbinaaDoor

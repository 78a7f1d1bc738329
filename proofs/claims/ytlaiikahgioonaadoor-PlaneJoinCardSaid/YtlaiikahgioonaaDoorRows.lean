/-
  NARROWER THAN 'FOR EVERY INPUT', by the rows' own cells (each row's printed sentence says how): PlaneRight: laid · PlaneHas: laid · PlaneMeets: laid · PlaneShift: laid · PlaneTurned: laid · PlaneWithin: laid · PlaneOf: laid · PlaneCentre: laid · PlaneDist: laid · PlaneGap: laid · PlaneJoin: laid.
  DERIVED. THE GIVEN ROWS OF THIS SEAT. 11 by the template 'for every input the law returns true; each argument reads behind the call as it read before'; 0 by the template 'total and deterministic' (their statements: YtlaiikahgioonaaDoorTotals.lean).
  GIVEN WITH THE SEED: the statements are not yours to turn. If you find one false, say at which input.
  Laid BY PROGRAM, IN A SANDBOX (cutbox-rows.mjs): the forced cells as the released guide's own fill.sh prints them over the translation ed207640f73a4cb3… (all of the seat's roots in one cut). By AI agents, Wed Nov 11 2026. No macro, syntax, notation, axiom, sorry.
-/
import Derived.Test.YtlaiikahgioonaaDoorChecked
import GoSem.Claim
import GoSem.ClaimJoined
import GoSem.ClaimMapViews
import Derived.JoinedTies
import Derived.KernelRfl
namespace Go.Proofs.YtlaiikahgioonaaDoor
/- THE CELL 'sum', in the pinned program and in every row, IS THE sha256 OF THE DUMP (.gsa) THAT YtlaiikahgioonaaDoorProg.lean LOADS. Nothing in Lean hashes anything: it is a label: what it is worth is what the hold of that sum in a sandbox is worth. -/
noncomputable def Tryd.pinned : Pinned := { name := "ytlaiikahgioonaadoor", sum := "ed207640f73a4cb34bcae7226e1fa95d0bf27d1611938d1b25e7af994570cf12", checked := Tryd.checked }
namespace Rows
def none {H : Type} : Left H := { results := [], args := [] }

/- WHAT THE LISTED PACKAGE-LEVEL VARIABLES READ AS WHEN THE CALL BEGINS. Each datum BY PROGRAM (the guide's laid-datum.mjs) off the statement by which the dump's own 'gosem.cut.vars' lays the variable. In a bare row this is a premise. The card (YtlaiikahgioonaaDoorCards.lean) ties it to the program's text. -/
def laid_paddock_api_ErrRange {H : Type} : DataW H := .iface "*errors.errorString" (.ptr (.agg [.lit (.string [112, 97, 100, 100, 111, 99, 107, 58, 32, 114, 97, 110, 103, 101])]))
def laid_paddock_api_ErrForm {H : Type} : DataW H := .iface "*errors.errorString" (.ptr (.agg [.lit (.string [112, 97, 100, 100, 111, 99, 107, 58, 32, 102, 111, 114, 109])]))
def laid_paddock_api_ErrNone {H : Type} : DataW H := .iface "*errors.errorString" (.ptr (.agg [.lit (.string [112, 97, 100, 100, 111, 99, 107, 58, 32, 110, 111, 110, 101])]))
def laid_paddock_api_ErrFull {H : Type} : DataW H := .iface "*errors.errorString" (.ptr (.agg [.lit (.string [112, 97, 100, 100, 111, 99, 107, 58, 32, 102, 117, 108, 108])]))
def laid_paddock_api_ErrExists {H : Type} : DataW H := .iface "*errors.errorString" (.ptr (.agg [.lit (.string [112, 97, 100, 100, 111, 99, 107, 58, 32, 101, 120, 105, 115, 116, 115])]))
def laid_paddock_api_ErrKind {H : Type} : DataW H := .iface "*errors.errorString" (.ptr (.agg [.lit (.string [112, 97, 100, 100, 111, 99, 107, 58, 32, 107, 105, 110, 100])]))
def laid_paddock_api_ErrState {H : Type} : DataW H := .iface "*errors.errorString" (.ptr (.agg [.lit (.string [112, 97, 100, 100, 111, 99, 107, 58, 32, 115, 116, 97, 116, 101])]))
def laid_paddock_api_ErrBlocked {H : Type} : DataW H := .iface "*errors.errorString" (.ptr (.agg [.lit (.string [112, 97, 100, 100, 111, 99, 107, 58, 32, 98, 108, 111, 99, 107, 101, 100])]))
def laid_paddock_api_ErrPath {H : Type} : DataW H := .iface "*errors.errorString" (.ptr (.agg [.lit (.string [112, 97, 100, 100, 111, 99, 107, 58, 32, 112, 97, 116, 104])]))
def laid_paddock_api_ErrGoal {H : Type} : DataW H := .iface "*errors.errorString" (.ptr (.agg [.lit (.string [112, 97, 100, 100, 111, 99, 107, 58, 32, 103, 111, 97, 108])]))

/-- 'paddocklaw01.PlaneRight': WHATEVER THE INPUT: true; the input reads as it did. -/
def planeRightSpec : ChangeSpec := { name := "planeRight", fn := fun _ => fun
  | [d] => { results := [.lit (.bool true)], args := [d] }
  | _ => none }
def planeRightRow : OpenClaim := { program := "ytlaiikahgioonaadoor", sum := "ed207640f73a4cb34bcae7226e1fa95d0bf27d1611938d1b25e7af994570cf12", func := "paddock/paddocklaw01.PlaneRight", spec := "planeRight", named := ["paddock/api.ErrRange"], apart := false, laid := [("paddock/api.ErrRange", laid_paddock_api_ErrRange)] }
def PlaneRightSaid : Prop := planeRightRow.holds Tryd.pinned (OpenSpec.ofChange planeRightSpec)

/-- ITS FALSE NEIGHBOUR: 'it returns false'. Refute it at one input. -/
def planeRightWrong : ChangeSpec := { name := "planeRight", fn := fun _ => fun
  | [d] => { results := [.lit (.bool false)], args := [d] }
  | _ => none }
def PlaneRightWrongFalsely : Prop := planeRightRow.holds Tryd.pinned (OpenSpec.ofChange planeRightWrong)

/-- 'paddocklaw01.PlaneHas': WHATEVER THE INPUT: true; the input reads as it did. -/
def planeHasSpec : ChangeSpec := { name := "planeHas", fn := fun _ => fun
  | [d1, d2] => { results := [.lit (.bool true)], args := [d1, d2] }
  | _ => none }
def planeHasRow : OpenClaim := { program := "ytlaiikahgioonaadoor", sum := "ed207640f73a4cb34bcae7226e1fa95d0bf27d1611938d1b25e7af994570cf12", func := "paddock/paddocklaw01.PlaneHas", spec := "planeHas", named := ["paddock/api.ErrRange"], apart := false, laid := [("paddock/api.ErrRange", laid_paddock_api_ErrRange)] }
def PlaneHasSaid : Prop := planeHasRow.holds Tryd.pinned (OpenSpec.ofChange planeHasSpec)

/-- ITS FALSE NEIGHBOUR: 'it returns false'. Refute it at one input. -/
def planeHasWrong : ChangeSpec := { name := "planeHas", fn := fun _ => fun
  | [d1, d2] => { results := [.lit (.bool false)], args := [d1, d2] }
  | _ => none }
def PlaneHasWrongFalsely : Prop := planeHasRow.holds Tryd.pinned (OpenSpec.ofChange planeHasWrong)

/-- 'paddocklaw01.PlaneMeets': WHATEVER THE INPUT: true; the input reads as it did. -/
def planeMeetsSpec : ChangeSpec := { name := "planeMeets", fn := fun _ => fun
  | [d1, d2] => { results := [.lit (.bool true)], args := [d1, d2] }
  | _ => none }
def planeMeetsRow : OpenClaim := { program := "ytlaiikahgioonaadoor", sum := "ed207640f73a4cb34bcae7226e1fa95d0bf27d1611938d1b25e7af994570cf12", func := "paddock/paddocklaw01.PlaneMeets", spec := "planeMeets", named := ["paddock/api.ErrRange"], apart := false, laid := [("paddock/api.ErrRange", laid_paddock_api_ErrRange)] }
def PlaneMeetsSaid : Prop := planeMeetsRow.holds Tryd.pinned (OpenSpec.ofChange planeMeetsSpec)

/-- ITS FALSE NEIGHBOUR: 'it returns false'. Refute it at one input. -/
def planeMeetsWrong : ChangeSpec := { name := "planeMeets", fn := fun _ => fun
  | [d1, d2] => { results := [.lit (.bool false)], args := [d1, d2] }
  | _ => none }
def PlaneMeetsWrongFalsely : Prop := planeMeetsRow.holds Tryd.pinned (OpenSpec.ofChange planeMeetsWrong)

/-- 'paddocklaw01.PlaneShift': WHATEVER THE INPUT: true; the input reads as it did. -/
def planeShiftSpec : ChangeSpec := { name := "planeShift", fn := fun _ => fun
  | [d1, d2, d3] => { results := [.lit (.bool true)], args := [d1, d2, d3] }
  | _ => none }
def planeShiftRow : OpenClaim := { program := "ytlaiikahgioonaadoor", sum := "ed207640f73a4cb34bcae7226e1fa95d0bf27d1611938d1b25e7af994570cf12", func := "paddock/paddocklaw01.PlaneShift", spec := "planeShift", named := ["paddock/api.ErrRange"], apart := false, laid := [("paddock/api.ErrRange", laid_paddock_api_ErrRange)] }
def PlaneShiftSaid : Prop := planeShiftRow.holds Tryd.pinned (OpenSpec.ofChange planeShiftSpec)

/-- ITS FALSE NEIGHBOUR: 'it returns false'. Refute it at one input. -/
def planeShiftWrong : ChangeSpec := { name := "planeShift", fn := fun _ => fun
  | [d1, d2, d3] => { results := [.lit (.bool false)], args := [d1, d2, d3] }
  | _ => none }
def PlaneShiftWrongFalsely : Prop := planeShiftRow.holds Tryd.pinned (OpenSpec.ofChange planeShiftWrong)

/-- 'paddocklaw01.PlaneTurned': WHATEVER THE INPUT: true; the input reads as it did. -/
def planeTurnedSpec : ChangeSpec := { name := "planeTurned", fn := fun _ => fun
  | [d1, d2, d3] => { results := [.lit (.bool true)], args := [d1, d2, d3] }
  | _ => none }
def planeTurnedRow : OpenClaim := { program := "ytlaiikahgioonaadoor", sum := "ed207640f73a4cb34bcae7226e1fa95d0bf27d1611938d1b25e7af994570cf12", func := "paddock/paddocklaw01.PlaneTurned", spec := "planeTurned", unfollowed := true, recurses := true, named := ["paddock/api.ErrRange", "paddock/api.ErrForm"], apart := false, laid := [("paddock/api.ErrRange", laid_paddock_api_ErrRange), ("paddock/api.ErrForm", laid_paddock_api_ErrForm)] }
def PlaneTurnedSaid : Prop := planeTurnedRow.holds Tryd.pinned (OpenSpec.ofChange planeTurnedSpec)

/-- ITS FALSE NEIGHBOUR: 'it returns false'. Refute it at one input. -/
def planeTurnedWrong : ChangeSpec := { name := "planeTurned", fn := fun _ => fun
  | [d1, d2, d3] => { results := [.lit (.bool false)], args := [d1, d2, d3] }
  | _ => none }
def PlaneTurnedWrongFalsely : Prop := planeTurnedRow.holds Tryd.pinned (OpenSpec.ofChange planeTurnedWrong)

/-- 'paddocklaw01.PlaneWithin': WHATEVER THE INPUT: true; the input reads as it did. -/
def planeWithinSpec : ChangeSpec := { name := "planeWithin", fn := fun _ => fun
  | [d1, d2, d3] => { results := [.lit (.bool true)], args := [d1, d2, d3] }
  | _ => none }
def planeWithinRow : OpenClaim := { program := "ytlaiikahgioonaadoor", sum := "ed207640f73a4cb34bcae7226e1fa95d0bf27d1611938d1b25e7af994570cf12", func := "paddock/paddocklaw01.PlaneWithin", spec := "planeWithin", named := ["paddock/api.ErrRange", "paddock/api.ErrNone", "paddock/api.ErrForm"], apart := false, laid := [("paddock/api.ErrRange", laid_paddock_api_ErrRange), ("paddock/api.ErrNone", laid_paddock_api_ErrNone), ("paddock/api.ErrForm", laid_paddock_api_ErrForm)] }
def PlaneWithinSaid : Prop := planeWithinRow.holds Tryd.pinned (OpenSpec.ofChange planeWithinSpec)

/-- ITS FALSE NEIGHBOUR: 'it returns false'. Refute it at one input. -/
def planeWithinWrong : ChangeSpec := { name := "planeWithin", fn := fun _ => fun
  | [d1, d2, d3] => { results := [.lit (.bool false)], args := [d1, d2, d3] }
  | _ => none }
def PlaneWithinWrongFalsely : Prop := planeWithinRow.holds Tryd.pinned (OpenSpec.ofChange planeWithinWrong)

/-- 'paddocklaw01.PlaneOf': WHATEVER THE INPUT: true; the input reads as it did. -/
def planeOfSpec : ChangeSpec := { name := "planeOf", fn := fun _ => fun
  | [d1, d2] => { results := [.lit (.bool true)], args := [d1, d2] }
  | _ => none }
def planeOfRow : OpenClaim := { program := "ytlaiikahgioonaadoor", sum := "ed207640f73a4cb34bcae7226e1fa95d0bf27d1611938d1b25e7af994570cf12", func := "paddock/paddocklaw01.PlaneOf", spec := "planeOf", inPlace := ["internal/reflectlite.TypeOf"], unfollowed := true, recurses := true, named := ["paddock/api.ErrRange", "paddock/api.ErrFull", "paddock/api.ErrNone", "paddock/api.ErrExists", "paddock/api.ErrKind", "paddock/api.ErrState", "paddock/api.ErrForm", "paddock/api.ErrBlocked", "paddock/api.ErrPath", "paddock/api.ErrGoal"], apart := false, laid := [("paddock/api.ErrRange", laid_paddock_api_ErrRange), ("paddock/api.ErrFull", laid_paddock_api_ErrFull), ("paddock/api.ErrNone", laid_paddock_api_ErrNone), ("paddock/api.ErrExists", laid_paddock_api_ErrExists), ("paddock/api.ErrKind", laid_paddock_api_ErrKind), ("paddock/api.ErrState", laid_paddock_api_ErrState), ("paddock/api.ErrForm", laid_paddock_api_ErrForm), ("paddock/api.ErrBlocked", laid_paddock_api_ErrBlocked), ("paddock/api.ErrPath", laid_paddock_api_ErrPath), ("paddock/api.ErrGoal", laid_paddock_api_ErrGoal)] }
def PlaneOfSaid : Prop := planeOfRow.holds Tryd.pinned (OpenSpec.ofChange planeOfSpec)

/-- ITS FALSE NEIGHBOUR: 'it returns false'. Refute it at one input. -/
def planeOfWrong : ChangeSpec := { name := "planeOf", fn := fun _ => fun
  | [d1, d2] => { results := [.lit (.bool false)], args := [d1, d2] }
  | _ => none }
def PlaneOfWrongFalsely : Prop := planeOfRow.holds Tryd.pinned (OpenSpec.ofChange planeOfWrong)

/-- 'paddocklaw01.PlaneCentre': WHATEVER THE INPUT: true; the input reads as it did. -/
def planeCentreSpec : ChangeSpec := { name := "planeCentre", fn := fun _ => fun
  | [d] => { results := [.lit (.bool true)], args := [d] }
  | _ => none }
def planeCentreRow : OpenClaim := { program := "ytlaiikahgioonaadoor", sum := "ed207640f73a4cb34bcae7226e1fa95d0bf27d1611938d1b25e7af994570cf12", func := "paddock/paddocklaw01.PlaneCentre", spec := "planeCentre", inPlace := ["internal/reflectlite.TypeOf"], unfollowed := true, recurses := true, named := ["paddock/api.ErrRange", "paddock/api.ErrForm", "paddock/api.ErrFull", "paddock/api.ErrNone", "paddock/api.ErrExists", "paddock/api.ErrKind", "paddock/api.ErrState", "paddock/api.ErrBlocked", "paddock/api.ErrPath", "paddock/api.ErrGoal"], apart := false, laid := [("paddock/api.ErrRange", laid_paddock_api_ErrRange), ("paddock/api.ErrFull", laid_paddock_api_ErrFull), ("paddock/api.ErrNone", laid_paddock_api_ErrNone), ("paddock/api.ErrExists", laid_paddock_api_ErrExists), ("paddock/api.ErrKind", laid_paddock_api_ErrKind), ("paddock/api.ErrState", laid_paddock_api_ErrState), ("paddock/api.ErrForm", laid_paddock_api_ErrForm), ("paddock/api.ErrBlocked", laid_paddock_api_ErrBlocked), ("paddock/api.ErrPath", laid_paddock_api_ErrPath), ("paddock/api.ErrGoal", laid_paddock_api_ErrGoal)] }
def PlaneCentreSaid : Prop := planeCentreRow.holds Tryd.pinned (OpenSpec.ofChange planeCentreSpec)

/-- ITS FALSE NEIGHBOUR: 'it returns false'. Refute it at one input. -/
def planeCentreWrong : ChangeSpec := { name := "planeCentre", fn := fun _ => fun
  | [d] => { results := [.lit (.bool false)], args := [d] }
  | _ => none }
def PlaneCentreWrongFalsely : Prop := planeCentreRow.holds Tryd.pinned (OpenSpec.ofChange planeCentreWrong)

/-- 'paddocklaw01.PlaneDist': WHATEVER THE INPUT: true; the input reads as it did. -/
def planeDistSpec : ChangeSpec := { name := "planeDist", fn := fun _ => fun
  | [d1, d2, d3] => { results := [.lit (.bool true)], args := [d1, d2, d3] }
  | _ => none }
def planeDistRow : OpenClaim := { program := "ytlaiikahgioonaadoor", sum := "ed207640f73a4cb34bcae7226e1fa95d0bf27d1611938d1b25e7af994570cf12", func := "paddock/paddocklaw01.PlaneDist", spec := "planeDist", inPlace := ["internal/reflectlite.TypeOf"], unfollowed := true, recurses := true, named := ["paddock/api.ErrRange", "paddock/api.ErrFull", "paddock/api.ErrNone", "paddock/api.ErrExists", "paddock/api.ErrKind", "paddock/api.ErrState", "paddock/api.ErrForm", "paddock/api.ErrBlocked", "paddock/api.ErrPath", "paddock/api.ErrGoal"], apart := false, laid := [("paddock/api.ErrRange", laid_paddock_api_ErrRange), ("paddock/api.ErrFull", laid_paddock_api_ErrFull), ("paddock/api.ErrNone", laid_paddock_api_ErrNone), ("paddock/api.ErrExists", laid_paddock_api_ErrExists), ("paddock/api.ErrKind", laid_paddock_api_ErrKind), ("paddock/api.ErrState", laid_paddock_api_ErrState), ("paddock/api.ErrForm", laid_paddock_api_ErrForm), ("paddock/api.ErrBlocked", laid_paddock_api_ErrBlocked), ("paddock/api.ErrPath", laid_paddock_api_ErrPath), ("paddock/api.ErrGoal", laid_paddock_api_ErrGoal)] }
def PlaneDistSaid : Prop := planeDistRow.holds Tryd.pinned (OpenSpec.ofChange planeDistSpec)

/-- ITS FALSE NEIGHBOUR: 'it returns false'. Refute it at one input. -/
def planeDistWrong : ChangeSpec := { name := "planeDist", fn := fun _ => fun
  | [d1, d2, d3] => { results := [.lit (.bool false)], args := [d1, d2, d3] }
  | _ => none }
def PlaneDistWrongFalsely : Prop := planeDistRow.holds Tryd.pinned (OpenSpec.ofChange planeDistWrong)

/-- 'paddocklaw01.PlaneGap': WHATEVER THE INPUT: true; the input reads as it did. -/
def planeGapSpec : ChangeSpec := { name := "planeGap", fn := fun _ => fun
  | [d1, d2] => { results := [.lit (.bool true)], args := [d1, d2] }
  | _ => none }
def planeGapRow : OpenClaim := { program := "ytlaiikahgioonaadoor", sum := "ed207640f73a4cb34bcae7226e1fa95d0bf27d1611938d1b25e7af994570cf12", func := "paddock/paddocklaw01.PlaneGap", spec := "planeGap", inPlace := ["internal/reflectlite.TypeOf"], unfollowed := true, recurses := true, named := ["paddock/api.ErrRange", "paddock/api.ErrForm", "paddock/api.ErrFull", "paddock/api.ErrNone", "paddock/api.ErrExists", "paddock/api.ErrKind", "paddock/api.ErrState", "paddock/api.ErrBlocked", "paddock/api.ErrPath", "paddock/api.ErrGoal"], apart := false, laid := [("paddock/api.ErrRange", laid_paddock_api_ErrRange), ("paddock/api.ErrFull", laid_paddock_api_ErrFull), ("paddock/api.ErrNone", laid_paddock_api_ErrNone), ("paddock/api.ErrExists", laid_paddock_api_ErrExists), ("paddock/api.ErrKind", laid_paddock_api_ErrKind), ("paddock/api.ErrState", laid_paddock_api_ErrState), ("paddock/api.ErrForm", laid_paddock_api_ErrForm), ("paddock/api.ErrBlocked", laid_paddock_api_ErrBlocked), ("paddock/api.ErrPath", laid_paddock_api_ErrPath), ("paddock/api.ErrGoal", laid_paddock_api_ErrGoal)] }
def PlaneGapSaid : Prop := planeGapRow.holds Tryd.pinned (OpenSpec.ofChange planeGapSpec)

/-- ITS FALSE NEIGHBOUR: 'it returns false'. Refute it at one input. -/
def planeGapWrong : ChangeSpec := { name := "planeGap", fn := fun _ => fun
  | [d1, d2] => { results := [.lit (.bool false)], args := [d1, d2] }
  | _ => none }
def PlaneGapWrongFalsely : Prop := planeGapRow.holds Tryd.pinned (OpenSpec.ofChange planeGapWrong)

/-- 'paddocklaw01.PlaneJoin': WHATEVER THE INPUT: true; the input reads as it did. -/
def planeJoinSpec : ChangeSpec := { name := "planeJoin", fn := fun _ => fun
  | [d] => { results := [.lit (.bool true)], args := [d] }
  | _ => none }
def planeJoinRow : OpenClaim := { program := "ytlaiikahgioonaadoor", sum := "ed207640f73a4cb34bcae7226e1fa95d0bf27d1611938d1b25e7af994570cf12", func := "paddock/paddocklaw01.PlaneJoin", spec := "planeJoin", inPlace := ["internal/reflectlite.TypeOf"], unfollowed := true, recurses := true, named := ["paddock/api.ErrRange", "paddock/api.ErrNone", "paddock/api.ErrForm", "paddock/api.ErrFull", "paddock/api.ErrExists", "paddock/api.ErrKind", "paddock/api.ErrState", "paddock/api.ErrBlocked", "paddock/api.ErrPath", "paddock/api.ErrGoal"], apart := false, laid := [("paddock/api.ErrRange", laid_paddock_api_ErrRange), ("paddock/api.ErrFull", laid_paddock_api_ErrFull), ("paddock/api.ErrNone", laid_paddock_api_ErrNone), ("paddock/api.ErrExists", laid_paddock_api_ErrExists), ("paddock/api.ErrKind", laid_paddock_api_ErrKind), ("paddock/api.ErrState", laid_paddock_api_ErrState), ("paddock/api.ErrForm", laid_paddock_api_ErrForm), ("paddock/api.ErrBlocked", laid_paddock_api_ErrBlocked), ("paddock/api.ErrPath", laid_paddock_api_ErrPath), ("paddock/api.ErrGoal", laid_paddock_api_ErrGoal)] }
def PlaneJoinSaid : Prop := planeJoinRow.holds Tryd.pinned (OpenSpec.ofChange planeJoinSpec)

/-- ITS FALSE NEIGHBOUR: 'it returns false'. Refute it at one input. -/
def planeJoinWrong : ChangeSpec := { name := "planeJoin", fn := fun _ => fun
  | [d] => { results := [.lit (.bool false)], args := [d] }
  | _ => none }
def PlaneJoinWrongFalsely : Prop := planeJoinRow.holds Tryd.pinned (OpenSpec.ofChange planeJoinWrong)

/- THE SECOND FORM. 'bulk': how many values and letters a reading holds, each counted each time it is reached (what is shared counts as often as it is met; a slice's spare places count too). A statement '..UptoSaid' is the law's where the arguments, and the package variables that the reading takes, are together of bulk at most 1048576: NARROWER than '..Said'. Prove '..Said' where nothing that the law and all that it calls make is longer than what came in: it says more and counts as full. Else prove '..UptoSaid'. A law counts once. -/
mutual
def uptoBulk {H : Type} : DataW H → Nat
  | .lit (.string bytes) => bytes.length + 1
  | .lit _ => 1
  | .nil => 1
  | .ptr d => uptoBulk d + 1
  | .slice elems spare => uptoBulkAll elems + uptoBulkAll spare + 1
  | .agg parts => uptoBulkAll parts + 1
  | .iface _ d => uptoBulk d + 1
  | .map entries => uptoBulkEntries entries + 1
  | .held _ => 1
def uptoBulkAll {H : Type} : List (DataW H) → Nat
  | [] => 0
  | d :: r => uptoBulk d + uptoBulkAll r
def uptoBulkEntries {H : Type} : List (Lit × DataW H) → Nat
  | [] => 0
  | x :: r => uptoBulkEntry x + uptoBulkEntries r
def uptoBulkEntry {H : Type} : Lit × DataW H → Nat
  | (.string bytes, d) => bytes.length + uptoBulk d + 1
  | (_, d) => uptoBulk d + 1
 end
def uptoSmall : (H : Type) → List (DataW H) → Bool := fun _ ds => decide (uptoBulkAll ds ≤ 1048576)
def OpenSpec.upto (s : _root_.Go.ChangeSpec) : _root_.Go.OpenSpec := { _root_.Go.OpenSpec.ofChange s with cond := some uptoSmall }

/-- 'paddocklaw01.PlaneRight', WHERE WHAT IT READS IS OF BULK AT MOST 1048576: true; the input reads as it did. -/
def planeRightUptoRow : OpenClaim := { program := "ytlaiikahgioonaadoor", sum := "ed207640f73a4cb34bcae7226e1fa95d0bf27d1611938d1b25e7af994570cf12", func := "paddock/paddocklaw01.PlaneRight", spec := "planeRight", named := ["paddock/api.ErrRange"], apart := false, laid := [("paddock/api.ErrRange", laid_paddock_api_ErrRange)], narrowed := true }
def PlaneRightUptoSaid : Prop := planeRightUptoRow.holds Tryd.pinned (OpenSpec.upto planeRightSpec)

/-- 'paddocklaw01.PlaneHas', WHERE WHAT IT READS IS OF BULK AT MOST 1048576: true; the input reads as it did. -/
def planeHasUptoRow : OpenClaim := { program := "ytlaiikahgioonaadoor", sum := "ed207640f73a4cb34bcae7226e1fa95d0bf27d1611938d1b25e7af994570cf12", func := "paddock/paddocklaw01.PlaneHas", spec := "planeHas", named := ["paddock/api.ErrRange"], apart := false, laid := [("paddock/api.ErrRange", laid_paddock_api_ErrRange)], narrowed := true }
def PlaneHasUptoSaid : Prop := planeHasUptoRow.holds Tryd.pinned (OpenSpec.upto planeHasSpec)

/-- 'paddocklaw01.PlaneMeets', WHERE WHAT IT READS IS OF BULK AT MOST 1048576: true; the input reads as it did. -/
def planeMeetsUptoRow : OpenClaim := { program := "ytlaiikahgioonaadoor", sum := "ed207640f73a4cb34bcae7226e1fa95d0bf27d1611938d1b25e7af994570cf12", func := "paddock/paddocklaw01.PlaneMeets", spec := "planeMeets", named := ["paddock/api.ErrRange"], apart := false, laid := [("paddock/api.ErrRange", laid_paddock_api_ErrRange)], narrowed := true }
def PlaneMeetsUptoSaid : Prop := planeMeetsUptoRow.holds Tryd.pinned (OpenSpec.upto planeMeetsSpec)

/-- 'paddocklaw01.PlaneShift', WHERE WHAT IT READS IS OF BULK AT MOST 1048576: true; the input reads as it did. -/
def planeShiftUptoRow : OpenClaim := { program := "ytlaiikahgioonaadoor", sum := "ed207640f73a4cb34bcae7226e1fa95d0bf27d1611938d1b25e7af994570cf12", func := "paddock/paddocklaw01.PlaneShift", spec := "planeShift", named := ["paddock/api.ErrRange"], apart := false, laid := [("paddock/api.ErrRange", laid_paddock_api_ErrRange)], narrowed := true }
def PlaneShiftUptoSaid : Prop := planeShiftUptoRow.holds Tryd.pinned (OpenSpec.upto planeShiftSpec)

/-- 'paddocklaw01.PlaneTurned', WHERE WHAT IT READS IS OF BULK AT MOST 1048576: true; the input reads as it did. -/
def planeTurnedUptoRow : OpenClaim := { program := "ytlaiikahgioonaadoor", sum := "ed207640f73a4cb34bcae7226e1fa95d0bf27d1611938d1b25e7af994570cf12", func := "paddock/paddocklaw01.PlaneTurned", spec := "planeTurned", unfollowed := true, recurses := true, named := ["paddock/api.ErrRange", "paddock/api.ErrForm"], apart := false, laid := [("paddock/api.ErrRange", laid_paddock_api_ErrRange), ("paddock/api.ErrForm", laid_paddock_api_ErrForm)], narrowed := true }
def PlaneTurnedUptoSaid : Prop := planeTurnedUptoRow.holds Tryd.pinned (OpenSpec.upto planeTurnedSpec)

/-- 'paddocklaw01.PlaneWithin', WHERE WHAT IT READS IS OF BULK AT MOST 1048576: true; the input reads as it did. -/
def planeWithinUptoRow : OpenClaim := { program := "ytlaiikahgioonaadoor", sum := "ed207640f73a4cb34bcae7226e1fa95d0bf27d1611938d1b25e7af994570cf12", func := "paddock/paddocklaw01.PlaneWithin", spec := "planeWithin", named := ["paddock/api.ErrRange", "paddock/api.ErrNone", "paddock/api.ErrForm"], apart := false, laid := [("paddock/api.ErrRange", laid_paddock_api_ErrRange), ("paddock/api.ErrNone", laid_paddock_api_ErrNone), ("paddock/api.ErrForm", laid_paddock_api_ErrForm)], narrowed := true }
def PlaneWithinUptoSaid : Prop := planeWithinUptoRow.holds Tryd.pinned (OpenSpec.upto planeWithinSpec)

/-- 'paddocklaw01.PlaneOf', WHERE WHAT IT READS IS OF BULK AT MOST 1048576: true; the input reads as it did. -/
def planeOfUptoRow : OpenClaim := { program := "ytlaiikahgioonaadoor", sum := "ed207640f73a4cb34bcae7226e1fa95d0bf27d1611938d1b25e7af994570cf12", func := "paddock/paddocklaw01.PlaneOf", spec := "planeOf", inPlace := ["internal/reflectlite.TypeOf"], unfollowed := true, recurses := true, named := ["paddock/api.ErrRange", "paddock/api.ErrFull", "paddock/api.ErrNone", "paddock/api.ErrExists", "paddock/api.ErrKind", "paddock/api.ErrState", "paddock/api.ErrForm", "paddock/api.ErrBlocked", "paddock/api.ErrPath", "paddock/api.ErrGoal"], apart := false, laid := [("paddock/api.ErrRange", laid_paddock_api_ErrRange), ("paddock/api.ErrFull", laid_paddock_api_ErrFull), ("paddock/api.ErrNone", laid_paddock_api_ErrNone), ("paddock/api.ErrExists", laid_paddock_api_ErrExists), ("paddock/api.ErrKind", laid_paddock_api_ErrKind), ("paddock/api.ErrState", laid_paddock_api_ErrState), ("paddock/api.ErrForm", laid_paddock_api_ErrForm), ("paddock/api.ErrBlocked", laid_paddock_api_ErrBlocked), ("paddock/api.ErrPath", laid_paddock_api_ErrPath), ("paddock/api.ErrGoal", laid_paddock_api_ErrGoal)], narrowed := true }
def PlaneOfUptoSaid : Prop := planeOfUptoRow.holds Tryd.pinned (OpenSpec.upto planeOfSpec)

/-- 'paddocklaw01.PlaneCentre', WHERE WHAT IT READS IS OF BULK AT MOST 1048576: true; the input reads as it did. -/
def planeCentreUptoRow : OpenClaim := { program := "ytlaiikahgioonaadoor", sum := "ed207640f73a4cb34bcae7226e1fa95d0bf27d1611938d1b25e7af994570cf12", func := "paddock/paddocklaw01.PlaneCentre", spec := "planeCentre", inPlace := ["internal/reflectlite.TypeOf"], unfollowed := true, recurses := true, named := ["paddock/api.ErrRange", "paddock/api.ErrForm", "paddock/api.ErrFull", "paddock/api.ErrNone", "paddock/api.ErrExists", "paddock/api.ErrKind", "paddock/api.ErrState", "paddock/api.ErrBlocked", "paddock/api.ErrPath", "paddock/api.ErrGoal"], apart := false, laid := [("paddock/api.ErrRange", laid_paddock_api_ErrRange), ("paddock/api.ErrFull", laid_paddock_api_ErrFull), ("paddock/api.ErrNone", laid_paddock_api_ErrNone), ("paddock/api.ErrExists", laid_paddock_api_ErrExists), ("paddock/api.ErrKind", laid_paddock_api_ErrKind), ("paddock/api.ErrState", laid_paddock_api_ErrState), ("paddock/api.ErrForm", laid_paddock_api_ErrForm), ("paddock/api.ErrBlocked", laid_paddock_api_ErrBlocked), ("paddock/api.ErrPath", laid_paddock_api_ErrPath), ("paddock/api.ErrGoal", laid_paddock_api_ErrGoal)], narrowed := true }
def PlaneCentreUptoSaid : Prop := planeCentreUptoRow.holds Tryd.pinned (OpenSpec.upto planeCentreSpec)

/-- 'paddocklaw01.PlaneDist', WHERE WHAT IT READS IS OF BULK AT MOST 1048576: true; the input reads as it did. -/
def planeDistUptoRow : OpenClaim := { program := "ytlaiikahgioonaadoor", sum := "ed207640f73a4cb34bcae7226e1fa95d0bf27d1611938d1b25e7af994570cf12", func := "paddock/paddocklaw01.PlaneDist", spec := "planeDist", inPlace := ["internal/reflectlite.TypeOf"], unfollowed := true, recurses := true, named := ["paddock/api.ErrRange", "paddock/api.ErrFull", "paddock/api.ErrNone", "paddock/api.ErrExists", "paddock/api.ErrKind", "paddock/api.ErrState", "paddock/api.ErrForm", "paddock/api.ErrBlocked", "paddock/api.ErrPath", "paddock/api.ErrGoal"], apart := false, laid := [("paddock/api.ErrRange", laid_paddock_api_ErrRange), ("paddock/api.ErrFull", laid_paddock_api_ErrFull), ("paddock/api.ErrNone", laid_paddock_api_ErrNone), ("paddock/api.ErrExists", laid_paddock_api_ErrExists), ("paddock/api.ErrKind", laid_paddock_api_ErrKind), ("paddock/api.ErrState", laid_paddock_api_ErrState), ("paddock/api.ErrForm", laid_paddock_api_ErrForm), ("paddock/api.ErrBlocked", laid_paddock_api_ErrBlocked), ("paddock/api.ErrPath", laid_paddock_api_ErrPath), ("paddock/api.ErrGoal", laid_paddock_api_ErrGoal)], narrowed := true }
def PlaneDistUptoSaid : Prop := planeDistUptoRow.holds Tryd.pinned (OpenSpec.upto planeDistSpec)

/-- 'paddocklaw01.PlaneGap', WHERE WHAT IT READS IS OF BULK AT MOST 1048576: true; the input reads as it did. -/
def planeGapUptoRow : OpenClaim := { program := "ytlaiikahgioonaadoor", sum := "ed207640f73a4cb34bcae7226e1fa95d0bf27d1611938d1b25e7af994570cf12", func := "paddock/paddocklaw01.PlaneGap", spec := "planeGap", inPlace := ["internal/reflectlite.TypeOf"], unfollowed := true, recurses := true, named := ["paddock/api.ErrRange", "paddock/api.ErrForm", "paddock/api.ErrFull", "paddock/api.ErrNone", "paddock/api.ErrExists", "paddock/api.ErrKind", "paddock/api.ErrState", "paddock/api.ErrBlocked", "paddock/api.ErrPath", "paddock/api.ErrGoal"], apart := false, laid := [("paddock/api.ErrRange", laid_paddock_api_ErrRange), ("paddock/api.ErrFull", laid_paddock_api_ErrFull), ("paddock/api.ErrNone", laid_paddock_api_ErrNone), ("paddock/api.ErrExists", laid_paddock_api_ErrExists), ("paddock/api.ErrKind", laid_paddock_api_ErrKind), ("paddock/api.ErrState", laid_paddock_api_ErrState), ("paddock/api.ErrForm", laid_paddock_api_ErrForm), ("paddock/api.ErrBlocked", laid_paddock_api_ErrBlocked), ("paddock/api.ErrPath", laid_paddock_api_ErrPath), ("paddock/api.ErrGoal", laid_paddock_api_ErrGoal)], narrowed := true }
def PlaneGapUptoSaid : Prop := planeGapUptoRow.holds Tryd.pinned (OpenSpec.upto planeGapSpec)

/-- 'paddocklaw01.PlaneJoin', WHERE WHAT IT READS IS OF BULK AT MOST 1048576: true; the input reads as it did. -/
def planeJoinUptoRow : OpenClaim := { program := "ytlaiikahgioonaadoor", sum := "ed207640f73a4cb34bcae7226e1fa95d0bf27d1611938d1b25e7af994570cf12", func := "paddock/paddocklaw01.PlaneJoin", spec := "planeJoin", inPlace := ["internal/reflectlite.TypeOf"], unfollowed := true, recurses := true, named := ["paddock/api.ErrRange", "paddock/api.ErrNone", "paddock/api.ErrForm", "paddock/api.ErrFull", "paddock/api.ErrExists", "paddock/api.ErrKind", "paddock/api.ErrState", "paddock/api.ErrBlocked", "paddock/api.ErrPath", "paddock/api.ErrGoal"], apart := false, laid := [("paddock/api.ErrRange", laid_paddock_api_ErrRange), ("paddock/api.ErrFull", laid_paddock_api_ErrFull), ("paddock/api.ErrNone", laid_paddock_api_ErrNone), ("paddock/api.ErrExists", laid_paddock_api_ErrExists), ("paddock/api.ErrKind", laid_paddock_api_ErrKind), ("paddock/api.ErrState", laid_paddock_api_ErrState), ("paddock/api.ErrForm", laid_paddock_api_ErrForm), ("paddock/api.ErrBlocked", laid_paddock_api_ErrBlocked), ("paddock/api.ErrPath", laid_paddock_api_ErrPath), ("paddock/api.ErrGoal", laid_paddock_api_ErrGoal)], narrowed := true }
def PlaneJoinUptoSaid : Prop := planeJoinUptoRow.holds Tryd.pinned (OpenSpec.upto planeJoinSpec)

end Rows
end Go.Proofs.YtlaiikahgioonaaDoor

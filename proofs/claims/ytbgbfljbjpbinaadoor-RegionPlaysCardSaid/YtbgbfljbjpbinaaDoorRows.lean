/-
  NARROWER THAN 'FOR EVERY INPUT', by the rows' own cells (each row's printed sentence says how): TilesUnder: laid · TilesPlaces: laid · TilesSums: laid · TilesAt: laid · TilesBack: laid · RegionNext: laid · RegionBack: laid · TilesPlays: laid · RegionSums: laid · RegionPlays: laid.
  DERIVED. THE GIVEN ROWS OF THIS SEAT. 10 by the template 'for every input the law returns true; each argument reads behind the call as it read before'; 0 by the template 'total and deterministic' (their statements: YtbgbfljbjpbinaaDoorTotals.lean).
  GIVEN WITH THE SEED: the statements are not yours to turn. If you find one false, say at which input.
  Laid BY PROGRAM, IN A SANDBOX (cutbox-rows.mjs): the forced cells as the released guide's own fill.sh prints them over the translation 1b917b17868c197b… (all of the seat's roots in one cut). By AI agents, Wed Nov 11 2026. No macro, syntax, notation, axiom, sorry.
-/
import Derived.Test.YtbgbfljbjpbinaaDoorChecked
import GoSem.Claim
import GoSem.ClaimJoined
import GoSem.ClaimMapViews
import Derived.JoinedTies
import Derived.KernelRfl
namespace Go.Proofs.YtbgbfljbjpbinaaDoor
/- THE CELL 'sum', in the pinned program and in every row, IS THE sha256 OF THE DUMP (.gsa) THAT YtbgbfljbjpbinaaDoorProg.lean LOADS. Nothing in Lean hashes anything: it is a label: what it is worth is what the hold of that sum in a sandbox is worth. -/
noncomputable def Tryd.pinned : Pinned := { name := "ytbgbfljbjpbinaadoor", sum := "1b917b17868c197bcc0bb8e89e8652b157fed427403ae54b1bfc402979299369", checked := Tryd.checked }
namespace Rows
def none {H : Type} : Left H := { results := [], args := [] }

/- WHAT THE LISTED PACKAGE-LEVEL VARIABLES READ AS WHEN THE CALL BEGINS. Each datum BY PROGRAM (the guide's laid-datum.mjs) off the statement by which the dump's own 'gosem.cut.vars' lays the variable. In a bare row this is a premise. The card (YtbgbfljbjpbinaaDoorCards.lean) ties it to the program's text. -/
def laid_paddock_api_ErrRange {H : Type} : DataW H := .iface "*errors.errorString" (.ptr (.agg [.lit (.string [112, 97, 100, 100, 111, 99, 107, 58, 32, 114, 97, 110, 103, 101])]))
def laid_paddock_api_ErrForm {H : Type} : DataW H := .iface "*errors.errorString" (.ptr (.agg [.lit (.string [112, 97, 100, 100, 111, 99, 107, 58, 32, 102, 111, 114, 109])]))
def laid_paddock_api_ErrFull {H : Type} : DataW H := .iface "*errors.errorString" (.ptr (.agg [.lit (.string [112, 97, 100, 100, 111, 99, 107, 58, 32, 102, 117, 108, 108])]))
def laid_paddock_api_ErrNone {H : Type} : DataW H := .iface "*errors.errorString" (.ptr (.agg [.lit (.string [112, 97, 100, 100, 111, 99, 107, 58, 32, 110, 111, 110, 101])]))
def laid_paddock_api_ErrExists {H : Type} : DataW H := .iface "*errors.errorString" (.ptr (.agg [.lit (.string [112, 97, 100, 100, 111, 99, 107, 58, 32, 101, 120, 105, 115, 116, 115])]))
def laid_paddock_api_ErrKind {H : Type} : DataW H := .iface "*errors.errorString" (.ptr (.agg [.lit (.string [112, 97, 100, 100, 111, 99, 107, 58, 32, 107, 105, 110, 100])]))
def laid_paddock_api_ErrState {H : Type} : DataW H := .iface "*errors.errorString" (.ptr (.agg [.lit (.string [112, 97, 100, 100, 111, 99, 107, 58, 32, 115, 116, 97, 116, 101])]))
def laid_paddock_api_ErrBlocked {H : Type} : DataW H := .iface "*errors.errorString" (.ptr (.agg [.lit (.string [112, 97, 100, 100, 111, 99, 107, 58, 32, 98, 108, 111, 99, 107, 101, 100])]))
def laid_paddock_api_ErrPath {H : Type} : DataW H := .iface "*errors.errorString" (.ptr (.agg [.lit (.string [112, 97, 100, 100, 111, 99, 107, 58, 32, 112, 97, 116, 104])]))
def laid_paddock_api_ErrGoal {H : Type} : DataW H := .iface "*errors.errorString" (.ptr (.agg [.lit (.string [112, 97, 100, 100, 111, 99, 107, 58, 32, 103, 111, 97, 108])]))

/-- 'paddocklaw14.TilesUnder': WHATEVER THE INPUT: true; the input reads as it did. -/
def tilesUnderSpec : ChangeSpec := { name := "tilesUnder", fn := fun _ => fun
  | [d1, d2] => { results := [.lit (.bool true)], args := [d1, d2] }
  | _ => none }
def tilesUnderRow : OpenClaim := { program := "ytbgbfljbjpbinaadoor", sum := "1b917b17868c197bcc0bb8e89e8652b157fed427403ae54b1bfc402979299369", func := "paddock/paddocklaw14.TilesUnder", spec := "tilesUnder", named := ["paddock/api.ErrRange"], apart := false, laid := [("paddock/api.ErrRange", laid_paddock_api_ErrRange)] }
def TilesUnderSaid : Prop := tilesUnderRow.holds Tryd.pinned (OpenSpec.ofChange tilesUnderSpec)

/-- ITS FALSE NEIGHBOUR: 'it returns false'. Refute it at one input. -/
def tilesUnderWrong : ChangeSpec := { name := "tilesUnder", fn := fun _ => fun
  | [d1, d2] => { results := [.lit (.bool false)], args := [d1, d2] }
  | _ => none }
def TilesUnderWrongFalsely : Prop := tilesUnderRow.holds Tryd.pinned (OpenSpec.ofChange tilesUnderWrong)

/-- 'paddocklaw14.TilesPlaces': WHATEVER THE INPUT: true; the input reads as it did. -/
def tilesPlacesSpec : ChangeSpec := { name := "tilesPlaces", fn := fun _ => fun
  | [d] => { results := [.lit (.bool true)], args := [d] }
  | _ => none }
def tilesPlacesRow : OpenClaim := { program := "ytbgbfljbjpbinaadoor", sum := "1b917b17868c197bcc0bb8e89e8652b157fed427403ae54b1bfc402979299369", func := "paddock/paddocklaw14.TilesPlaces", spec := "tilesPlaces", named := ["paddock/api.ErrRange", "paddock/api.ErrForm"], apart := false, laid := [("paddock/api.ErrRange", laid_paddock_api_ErrRange), ("paddock/api.ErrForm", laid_paddock_api_ErrForm)] }
def TilesPlacesSaid : Prop := tilesPlacesRow.holds Tryd.pinned (OpenSpec.ofChange tilesPlacesSpec)

/-- ITS FALSE NEIGHBOUR: 'it returns false'. Refute it at one input. -/
def tilesPlacesWrong : ChangeSpec := { name := "tilesPlaces", fn := fun _ => fun
  | [d] => { results := [.lit (.bool false)], args := [d] }
  | _ => none }
def TilesPlacesWrongFalsely : Prop := tilesPlacesRow.holds Tryd.pinned (OpenSpec.ofChange tilesPlacesWrong)

/-- 'paddocklaw14.TilesSums': WHATEVER THE INPUT: true; the input reads as it did. -/
def tilesSumsSpec : ChangeSpec := { name := "tilesSums", fn := fun _ => fun
  | [d1, d2] => { results := [.lit (.bool true)], args := [d1, d2] }
  | _ => none }
def tilesSumsRow : OpenClaim := { program := "ytbgbfljbjpbinaadoor", sum := "1b917b17868c197bcc0bb8e89e8652b157fed427403ae54b1bfc402979299369", func := "paddock/paddocklaw14.TilesSums", spec := "tilesSums", named := ["paddock/api.ErrRange", "paddock/api.ErrForm"], apart := false, laid := [("paddock/api.ErrRange", laid_paddock_api_ErrRange), ("paddock/api.ErrForm", laid_paddock_api_ErrForm)] }
def TilesSumsSaid : Prop := tilesSumsRow.holds Tryd.pinned (OpenSpec.ofChange tilesSumsSpec)

/-- ITS FALSE NEIGHBOUR: 'it returns false'. Refute it at one input. -/
def tilesSumsWrong : ChangeSpec := { name := "tilesSums", fn := fun _ => fun
  | [d1, d2] => { results := [.lit (.bool false)], args := [d1, d2] }
  | _ => none }
def TilesSumsWrongFalsely : Prop := tilesSumsRow.holds Tryd.pinned (OpenSpec.ofChange tilesSumsWrong)

/-- 'paddocklaw14.TilesAt': WHATEVER THE INPUT: true; the input reads as it did. -/
def tilesAtSpec : ChangeSpec := { name := "tilesAt", fn := fun _ => fun
  | [d1, d2, d3] => { results := [.lit (.bool true)], args := [d1, d2, d3] }
  | _ => none }
def tilesAtRow : OpenClaim := { program := "ytbgbfljbjpbinaadoor", sum := "1b917b17868c197bcc0bb8e89e8652b157fed427403ae54b1bfc402979299369", func := "paddock/paddocklaw14.TilesAt", spec := "tilesAt", inPlace := ["internal/reflectlite.TypeOf"], unfollowed := true, recurses := true, named := ["paddock/api.ErrRange", "paddock/api.ErrForm", "paddock/api.ErrFull", "paddock/api.ErrNone", "paddock/api.ErrExists", "paddock/api.ErrKind", "paddock/api.ErrState", "paddock/api.ErrBlocked", "paddock/api.ErrPath", "paddock/api.ErrGoal"], apart := false, laid := [("paddock/api.ErrRange", laid_paddock_api_ErrRange), ("paddock/api.ErrFull", laid_paddock_api_ErrFull), ("paddock/api.ErrNone", laid_paddock_api_ErrNone), ("paddock/api.ErrExists", laid_paddock_api_ErrExists), ("paddock/api.ErrKind", laid_paddock_api_ErrKind), ("paddock/api.ErrState", laid_paddock_api_ErrState), ("paddock/api.ErrForm", laid_paddock_api_ErrForm), ("paddock/api.ErrBlocked", laid_paddock_api_ErrBlocked), ("paddock/api.ErrPath", laid_paddock_api_ErrPath), ("paddock/api.ErrGoal", laid_paddock_api_ErrGoal)] }
def TilesAtSaid : Prop := tilesAtRow.holds Tryd.pinned (OpenSpec.ofChange tilesAtSpec)

/-- ITS FALSE NEIGHBOUR: 'it returns false'. Refute it at one input. -/
def tilesAtWrong : ChangeSpec := { name := "tilesAt", fn := fun _ => fun
  | [d1, d2, d3] => { results := [.lit (.bool false)], args := [d1, d2, d3] }
  | _ => none }
def TilesAtWrongFalsely : Prop := tilesAtRow.holds Tryd.pinned (OpenSpec.ofChange tilesAtWrong)

/-- 'paddocklaw14.TilesBack': WHATEVER THE INPUT: true; the input reads as it did. -/
def tilesBackSpec : ChangeSpec := { name := "tilesBack", fn := fun _ => fun
  | [d1, d2, d3] => { results := [.lit (.bool true)], args := [d1, d2, d3] }
  | _ => none }
def tilesBackRow : OpenClaim := { program := "ytbgbfljbjpbinaadoor", sum := "1b917b17868c197bcc0bb8e89e8652b157fed427403ae54b1bfc402979299369", func := "paddock/paddocklaw14.TilesBack", spec := "tilesBack", unfollowed := true, recurses := true, named := ["paddock/api.ErrRange", "paddock/api.ErrForm", "paddock/api.ErrNone"], apart := false, laid := [("paddock/api.ErrRange", laid_paddock_api_ErrRange), ("paddock/api.ErrNone", laid_paddock_api_ErrNone), ("paddock/api.ErrForm", laid_paddock_api_ErrForm)] }
def TilesBackSaid : Prop := tilesBackRow.holds Tryd.pinned (OpenSpec.ofChange tilesBackSpec)

/-- ITS FALSE NEIGHBOUR: 'it returns false'. Refute it at one input. -/
def tilesBackWrong : ChangeSpec := { name := "tilesBack", fn := fun _ => fun
  | [d1, d2, d3] => { results := [.lit (.bool false)], args := [d1, d2, d3] }
  | _ => none }
def TilesBackWrongFalsely : Prop := tilesBackRow.holds Tryd.pinned (OpenSpec.ofChange tilesBackWrong)

/-- 'paddocklaw15.RegionNext': WHATEVER THE INPUT: true; the input reads as it did. -/
def regionNextSpec : ChangeSpec := { name := "regionNext", fn := fun _ => fun
  | [d1, d2, d3] => { results := [.lit (.bool true)], args := [d1, d2, d3] }
  | _ => none }
def regionNextRow : OpenClaim := { program := "ytbgbfljbjpbinaadoor", sum := "1b917b17868c197bcc0bb8e89e8652b157fed427403ae54b1bfc402979299369", func := "paddock/paddocklaw15.RegionNext", spec := "regionNext", named := ["paddock/api.ErrForm", "paddock/api.ErrRange", "paddock/api.ErrBlocked", "paddock/api.ErrState"], apart := false, laid := [("paddock/api.ErrRange", laid_paddock_api_ErrRange), ("paddock/api.ErrState", laid_paddock_api_ErrState), ("paddock/api.ErrForm", laid_paddock_api_ErrForm), ("paddock/api.ErrBlocked", laid_paddock_api_ErrBlocked)] }
def RegionNextSaid : Prop := regionNextRow.holds Tryd.pinned (OpenSpec.ofChange regionNextSpec)

/-- ITS FALSE NEIGHBOUR: 'it returns false'. Refute it at one input. -/
def regionNextWrong : ChangeSpec := { name := "regionNext", fn := fun _ => fun
  | [d1, d2, d3] => { results := [.lit (.bool false)], args := [d1, d2, d3] }
  | _ => none }
def RegionNextWrongFalsely : Prop := regionNextRow.holds Tryd.pinned (OpenSpec.ofChange regionNextWrong)

/-- 'paddocklaw15.RegionBack': WHATEVER THE INPUT: true; the input reads as it did. -/
def regionBackSpec : ChangeSpec := { name := "regionBack", fn := fun _ => fun
  | [d1, d2, d3] => { results := [.lit (.bool true)], args := [d1, d2, d3] }
  | _ => none }
def regionBackRow : OpenClaim := { program := "ytbgbfljbjpbinaadoor", sum := "1b917b17868c197bcc0bb8e89e8652b157fed427403ae54b1bfc402979299369", func := "paddock/paddocklaw15.RegionBack", spec := "regionBack", named := ["paddock/api.ErrForm", "paddock/api.ErrRange", "paddock/api.ErrBlocked", "paddock/api.ErrState"], apart := false, laid := [("paddock/api.ErrRange", laid_paddock_api_ErrRange), ("paddock/api.ErrState", laid_paddock_api_ErrState), ("paddock/api.ErrForm", laid_paddock_api_ErrForm), ("paddock/api.ErrBlocked", laid_paddock_api_ErrBlocked)] }
def RegionBackSaid : Prop := regionBackRow.holds Tryd.pinned (OpenSpec.ofChange regionBackSpec)

/-- ITS FALSE NEIGHBOUR: 'it returns false'. Refute it at one input. -/
def regionBackWrong : ChangeSpec := { name := "regionBack", fn := fun _ => fun
  | [d1, d2, d3] => { results := [.lit (.bool false)], args := [d1, d2, d3] }
  | _ => none }
def RegionBackWrongFalsely : Prop := regionBackRow.holds Tryd.pinned (OpenSpec.ofChange regionBackWrong)

/-- 'paddocklaw14.TilesPlays': WHATEVER THE INPUT: true; the input reads as it did. -/
def tilesPlaysSpec : ChangeSpec := { name := "tilesPlays", fn := fun _ => fun
  | [d1, d2, d3] => { results := [.lit (.bool true)], args := [d1, d2, d3] }
  | _ => none }
def tilesPlaysRow : OpenClaim := { program := "ytbgbfljbjpbinaadoor", sum := "1b917b17868c197bcc0bb8e89e8652b157fed427403ae54b1bfc402979299369", func := "paddock/paddocklaw14.TilesPlays", spec := "tilesPlays", inPlace := ["internal/reflectlite.TypeOf"], unfollowed := true, recurses := true, named := ["paddock/api.ErrRange", "paddock/api.ErrForm", "paddock/api.ErrFull", "paddock/api.ErrNone", "paddock/api.ErrExists", "paddock/api.ErrKind", "paddock/api.ErrState", "paddock/api.ErrBlocked", "paddock/api.ErrPath", "paddock/api.ErrGoal"], apart := false, laid := [("paddock/api.ErrRange", laid_paddock_api_ErrRange), ("paddock/api.ErrFull", laid_paddock_api_ErrFull), ("paddock/api.ErrNone", laid_paddock_api_ErrNone), ("paddock/api.ErrExists", laid_paddock_api_ErrExists), ("paddock/api.ErrKind", laid_paddock_api_ErrKind), ("paddock/api.ErrState", laid_paddock_api_ErrState), ("paddock/api.ErrForm", laid_paddock_api_ErrForm), ("paddock/api.ErrBlocked", laid_paddock_api_ErrBlocked), ("paddock/api.ErrPath", laid_paddock_api_ErrPath), ("paddock/api.ErrGoal", laid_paddock_api_ErrGoal)] }
def TilesPlaysSaid : Prop := tilesPlaysRow.holds Tryd.pinned (OpenSpec.ofChange tilesPlaysSpec)

/-- ITS FALSE NEIGHBOUR: 'it returns false'. Refute it at one input. -/
def tilesPlaysWrong : ChangeSpec := { name := "tilesPlays", fn := fun _ => fun
  | [d1, d2, d3] => { results := [.lit (.bool false)], args := [d1, d2, d3] }
  | _ => none }
def TilesPlaysWrongFalsely : Prop := tilesPlaysRow.holds Tryd.pinned (OpenSpec.ofChange tilesPlaysWrong)

/-- 'paddocklaw15.RegionSums': WHATEVER THE INPUT: true; the input reads as it did. -/
def regionSumsSpec : ChangeSpec := { name := "regionSums", fn := fun _ => fun
  | [d1, d2] => { results := [.lit (.bool true)], args := [d1, d2] }
  | _ => none }
def regionSumsRow : OpenClaim := { program := "ytbgbfljbjpbinaadoor", sum := "1b917b17868c197bcc0bb8e89e8652b157fed427403ae54b1bfc402979299369", func := "paddock/paddocklaw15.RegionSums", spec := "regionSums", named := ["paddock/api.ErrForm", "paddock/api.ErrRange", "paddock/api.ErrBlocked", "paddock/api.ErrState"], apart := false, laid := [("paddock/api.ErrRange", laid_paddock_api_ErrRange), ("paddock/api.ErrState", laid_paddock_api_ErrState), ("paddock/api.ErrForm", laid_paddock_api_ErrForm), ("paddock/api.ErrBlocked", laid_paddock_api_ErrBlocked)] }
def RegionSumsSaid : Prop := regionSumsRow.holds Tryd.pinned (OpenSpec.ofChange regionSumsSpec)

/-- ITS FALSE NEIGHBOUR: 'it returns false'. Refute it at one input. -/
def regionSumsWrong : ChangeSpec := { name := "regionSums", fn := fun _ => fun
  | [d1, d2] => { results := [.lit (.bool false)], args := [d1, d2] }
  | _ => none }
def RegionSumsWrongFalsely : Prop := regionSumsRow.holds Tryd.pinned (OpenSpec.ofChange regionSumsWrong)

/-- 'paddocklaw15.RegionPlays': WHATEVER THE INPUT: true; the input reads as it did. -/
def regionPlaysSpec : ChangeSpec := { name := "regionPlays", fn := fun _ => fun
  | [d1, d2, d3] => { results := [.lit (.bool true)], args := [d1, d2, d3] }
  | _ => none }
def regionPlaysRow : OpenClaim := { program := "ytbgbfljbjpbinaadoor", sum := "1b917b17868c197bcc0bb8e89e8652b157fed427403ae54b1bfc402979299369", func := "paddock/paddocklaw15.RegionPlays", spec := "regionPlays", inPlace := ["internal/reflectlite.TypeOf"], unfollowed := true, recurses := true, named := ["paddock/api.ErrForm", "paddock/api.ErrRange", "paddock/api.ErrBlocked", "paddock/api.ErrState", "paddock/api.ErrFull", "paddock/api.ErrNone", "paddock/api.ErrExists", "paddock/api.ErrKind", "paddock/api.ErrPath", "paddock/api.ErrGoal"], apart := false, laid := [("paddock/api.ErrRange", laid_paddock_api_ErrRange), ("paddock/api.ErrFull", laid_paddock_api_ErrFull), ("paddock/api.ErrNone", laid_paddock_api_ErrNone), ("paddock/api.ErrExists", laid_paddock_api_ErrExists), ("paddock/api.ErrKind", laid_paddock_api_ErrKind), ("paddock/api.ErrState", laid_paddock_api_ErrState), ("paddock/api.ErrForm", laid_paddock_api_ErrForm), ("paddock/api.ErrBlocked", laid_paddock_api_ErrBlocked), ("paddock/api.ErrPath", laid_paddock_api_ErrPath), ("paddock/api.ErrGoal", laid_paddock_api_ErrGoal)] }
def RegionPlaysSaid : Prop := regionPlaysRow.holds Tryd.pinned (OpenSpec.ofChange regionPlaysSpec)

/-- ITS FALSE NEIGHBOUR: 'it returns false'. Refute it at one input. -/
def regionPlaysWrong : ChangeSpec := { name := "regionPlays", fn := fun _ => fun
  | [d1, d2, d3] => { results := [.lit (.bool false)], args := [d1, d2, d3] }
  | _ => none }
def RegionPlaysWrongFalsely : Prop := regionPlaysRow.holds Tryd.pinned (OpenSpec.ofChange regionPlaysWrong)

/- THE SECOND FORM. 'bulk': how many values and letters a reading holds, each counted each time it is reached (what is shared counts as often as it is met; a slice's spare places count too). A statement '..UptoSaid' is the law's where the arguments, and the package variables that the reading takes, are together of bulk at most 1048576: NARROWER than '..Said'. Prove '..Said' where nothing that the law and all that it calls make is longer than what came in: it says more and counts as full. Else prove '..UptoSaid'. A law counts once. -/
mutual
def uptoBulk {H : Type} : DataW H → Nat
  | .lit (.string bytes) => bytes.length + 1
  | .lit _ => 1
  | .nil => 1
  | .ptr d => uptoBulk d + 1
  | .slice elems spare => uptoBulkAll elems + uptoBulkAll spare + 1
  | .agg parts => uptoBulkAll parts + 1
  | .iface _ d => uptoBulk d + 1
  | .map entries => uptoBulkEntries entries + 1
  | .held _ => 1
def uptoBulkAll {H : Type} : List (DataW H) → Nat
  | [] => 0
  | d :: r => uptoBulk d + uptoBulkAll r
def uptoBulkEntries {H : Type} : List (Lit × DataW H) → Nat
  | [] => 0
  | x :: r => uptoBulkEntry x + uptoBulkEntries r
def uptoBulkEntry {H : Type} : Lit × DataW H → Nat
  | (.string bytes, d) => bytes.length + uptoBulk d + 1
  | (_, d) => uptoBulk d + 1
 end
def uptoSmall : (H : Type) → List (DataW H) → Bool := fun _ ds => decide (uptoBulkAll ds ≤ 1048576)
def OpenSpec.upto (s : _root_.Go.ChangeSpec) : _root_.Go.OpenSpec := { _root_.Go.OpenSpec.ofChange s with cond := some uptoSmall }

/-- 'paddocklaw14.TilesUnder', WHERE WHAT IT READS IS OF BULK AT MOST 1048576: true; the input reads as it did. -/
def tilesUnderUptoRow : OpenClaim := { program := "ytbgbfljbjpbinaadoor", sum := "1b917b17868c197bcc0bb8e89e8652b157fed427403ae54b1bfc402979299369", func := "paddock/paddocklaw14.TilesUnder", spec := "tilesUnder", named := ["paddock/api.ErrRange"], apart := false, laid := [("paddock/api.ErrRange", laid_paddock_api_ErrRange)], narrowed := true }
def TilesUnderUptoSaid : Prop := tilesUnderUptoRow.holds Tryd.pinned (OpenSpec.upto tilesUnderSpec)

/-- 'paddocklaw14.TilesPlaces', WHERE WHAT IT READS IS OF BULK AT MOST 1048576: true; the input reads as it did. -/
def tilesPlacesUptoRow : OpenClaim := { program := "ytbgbfljbjpbinaadoor", sum := "1b917b17868c197bcc0bb8e89e8652b157fed427403ae54b1bfc402979299369", func := "paddock/paddocklaw14.TilesPlaces", spec := "tilesPlaces", named := ["paddock/api.ErrRange", "paddock/api.ErrForm"], apart := false, laid := [("paddock/api.ErrRange", laid_paddock_api_ErrRange), ("paddock/api.ErrForm", laid_paddock_api_ErrForm)], narrowed := true }
def TilesPlacesUptoSaid : Prop := tilesPlacesUptoRow.holds Tryd.pinned (OpenSpec.upto tilesPlacesSpec)

/-- 'paddocklaw14.TilesSums', WHERE WHAT IT READS IS OF BULK AT MOST 1048576: true; the input reads as it did. -/
def tilesSumsUptoRow : OpenClaim := { program := "ytbgbfljbjpbinaadoor", sum := "1b917b17868c197bcc0bb8e89e8652b157fed427403ae54b1bfc402979299369", func := "paddock/paddocklaw14.TilesSums", spec := "tilesSums", named := ["paddock/api.ErrRange", "paddock/api.ErrForm"], apart := false, laid := [("paddock/api.ErrRange", laid_paddock_api_ErrRange), ("paddock/api.ErrForm", laid_paddock_api_ErrForm)], narrowed := true }
def TilesSumsUptoSaid : Prop := tilesSumsUptoRow.holds Tryd.pinned (OpenSpec.upto tilesSumsSpec)

/-- 'paddocklaw14.TilesAt', WHERE WHAT IT READS IS OF BULK AT MOST 1048576: true; the input reads as it did. -/
def tilesAtUptoRow : OpenClaim := { program := "ytbgbfljbjpbinaadoor", sum := "1b917b17868c197bcc0bb8e89e8652b157fed427403ae54b1bfc402979299369", func := "paddock/paddocklaw14.TilesAt", spec := "tilesAt", inPlace := ["internal/reflectlite.TypeOf"], unfollowed := true, recurses := true, named := ["paddock/api.ErrRange", "paddock/api.ErrForm", "paddock/api.ErrFull", "paddock/api.ErrNone", "paddock/api.ErrExists", "paddock/api.ErrKind", "paddock/api.ErrState", "paddock/api.ErrBlocked", "paddock/api.ErrPath", "paddock/api.ErrGoal"], apart := false, laid := [("paddock/api.ErrRange", laid_paddock_api_ErrRange), ("paddock/api.ErrFull", laid_paddock_api_ErrFull), ("paddock/api.ErrNone", laid_paddock_api_ErrNone), ("paddock/api.ErrExists", laid_paddock_api_ErrExists), ("paddock/api.ErrKind", laid_paddock_api_ErrKind), ("paddock/api.ErrState", laid_paddock_api_ErrState), ("paddock/api.ErrForm", laid_paddock_api_ErrForm), ("paddock/api.ErrBlocked", laid_paddock_api_ErrBlocked), ("paddock/api.ErrPath", laid_paddock_api_ErrPath), ("paddock/api.ErrGoal", laid_paddock_api_ErrGoal)], narrowed := true }
def TilesAtUptoSaid : Prop := tilesAtUptoRow.holds Tryd.pinned (OpenSpec.upto tilesAtSpec)

/-- 'paddocklaw14.TilesBack', WHERE WHAT IT READS IS OF BULK AT MOST 1048576: true; the input reads as it did. -/
def tilesBackUptoRow : OpenClaim := { program := "ytbgbfljbjpbinaadoor", sum := "1b917b17868c197bcc0bb8e89e8652b157fed427403ae54b1bfc402979299369", func := "paddock/paddocklaw14.TilesBack", spec := "tilesBack", unfollowed := true, recurses := true, named := ["paddock/api.ErrRange", "paddock/api.ErrForm", "paddock/api.ErrNone"], apart := false, laid := [("paddock/api.ErrRange", laid_paddock_api_ErrRange), ("paddock/api.ErrNone", laid_paddock_api_ErrNone), ("paddock/api.ErrForm", laid_paddock_api_ErrForm)], narrowed := true }
def TilesBackUptoSaid : Prop := tilesBackUptoRow.holds Tryd.pinned (OpenSpec.upto tilesBackSpec)

/-- 'paddocklaw15.RegionNext', WHERE WHAT IT READS IS OF BULK AT MOST 1048576: true; the input reads as it did. -/
def regionNextUptoRow : OpenClaim := { program := "ytbgbfljbjpbinaadoor", sum := "1b917b17868c197bcc0bb8e89e8652b157fed427403ae54b1bfc402979299369", func := "paddock/paddocklaw15.RegionNext", spec := "regionNext", named := ["paddock/api.ErrForm", "paddock/api.ErrRange", "paddock/api.ErrBlocked", "paddock/api.ErrState"], apart := false, laid := [("paddock/api.ErrRange", laid_paddock_api_ErrRange), ("paddock/api.ErrState", laid_paddock_api_ErrState), ("paddock/api.ErrForm", laid_paddock_api_ErrForm), ("paddock/api.ErrBlocked", laid_paddock_api_ErrBlocked)], narrowed := true }
def RegionNextUptoSaid : Prop := regionNextUptoRow.holds Tryd.pinned (OpenSpec.upto regionNextSpec)

/-- 'paddocklaw15.RegionBack', WHERE WHAT IT READS IS OF BULK AT MOST 1048576: true; the input reads as it did. -/
def regionBackUptoRow : OpenClaim := { program := "ytbgbfljbjpbinaadoor", sum := "1b917b17868c197bcc0bb8e89e8652b157fed427403ae54b1bfc402979299369", func := "paddock/paddocklaw15.RegionBack", spec := "regionBack", named := ["paddock/api.ErrForm", "paddock/api.ErrRange", "paddock/api.ErrBlocked", "paddock/api.ErrState"], apart := false, laid := [("paddock/api.ErrRange", laid_paddock_api_ErrRange), ("paddock/api.ErrState", laid_paddock_api_ErrState), ("paddock/api.ErrForm", laid_paddock_api_ErrForm), ("paddock/api.ErrBlocked", laid_paddock_api_ErrBlocked)], narrowed := true }
def RegionBackUptoSaid : Prop := regionBackUptoRow.holds Tryd.pinned (OpenSpec.upto regionBackSpec)

/-- 'paddocklaw14.TilesPlays', WHERE WHAT IT READS IS OF BULK AT MOST 1048576: true; the input reads as it did. -/
def tilesPlaysUptoRow : OpenClaim := { program := "ytbgbfljbjpbinaadoor", sum := "1b917b17868c197bcc0bb8e89e8652b157fed427403ae54b1bfc402979299369", func := "paddock/paddocklaw14.TilesPlays", spec := "tilesPlays", inPlace := ["internal/reflectlite.TypeOf"], unfollowed := true, recurses := true, named := ["paddock/api.ErrRange", "paddock/api.ErrForm", "paddock/api.ErrFull", "paddock/api.ErrNone", "paddock/api.ErrExists", "paddock/api.ErrKind", "paddock/api.ErrState", "paddock/api.ErrBlocked", "paddock/api.ErrPath", "paddock/api.ErrGoal"], apart := false, laid := [("paddock/api.ErrRange", laid_paddock_api_ErrRange), ("paddock/api.ErrFull", laid_paddock_api_ErrFull), ("paddock/api.ErrNone", laid_paddock_api_ErrNone), ("paddock/api.ErrExists", laid_paddock_api_ErrExists), ("paddock/api.ErrKind", laid_paddock_api_ErrKind), ("paddock/api.ErrState", laid_paddock_api_ErrState), ("paddock/api.ErrForm", laid_paddock_api_ErrForm), ("paddock/api.ErrBlocked", laid_paddock_api_ErrBlocked), ("paddock/api.ErrPath", laid_paddock_api_ErrPath), ("paddock/api.ErrGoal", laid_paddock_api_ErrGoal)], narrowed := true }
def TilesPlaysUptoSaid : Prop := tilesPlaysUptoRow.holds Tryd.pinned (OpenSpec.upto tilesPlaysSpec)

/-- 'paddocklaw15.RegionSums', WHERE WHAT IT READS IS OF BULK AT MOST 1048576: true; the input reads as it did. -/
def regionSumsUptoRow : OpenClaim := { program := "ytbgbfljbjpbinaadoor", sum := "1b917b17868c197bcc0bb8e89e8652b157fed427403ae54b1bfc402979299369", func := "paddock/paddocklaw15.RegionSums", spec := "regionSums", named := ["paddock/api.ErrForm", "paddock/api.ErrRange", "paddock/api.ErrBlocked", "paddock/api.ErrState"], apart := false, laid := [("paddock/api.ErrRange", laid_paddock_api_ErrRange), ("paddock/api.ErrState", laid_paddock_api_ErrState), ("paddock/api.ErrForm", laid_paddock_api_ErrForm), ("paddock/api.ErrBlocked", laid_paddock_api_ErrBlocked)], narrowed := true }
def RegionSumsUptoSaid : Prop := regionSumsUptoRow.holds Tryd.pinned (OpenSpec.upto regionSumsSpec)

/-- 'paddocklaw15.RegionPlays', WHERE WHAT IT READS IS OF BULK AT MOST 1048576: true; the input reads as it did. -/
def regionPlaysUptoRow : OpenClaim := { program := "ytbgbfljbjpbinaadoor", sum := "1b917b17868c197bcc0bb8e89e8652b157fed427403ae54b1bfc402979299369", func := "paddock/paddocklaw15.RegionPlays", spec := "regionPlays", inPlace := ["internal/reflectlite.TypeOf"], unfollowed := true, recurses := true, named := ["paddock/api.ErrForm", "paddock/api.ErrRange", "paddock/api.ErrBlocked", "paddock/api.ErrState", "paddock/api.ErrFull", "paddock/api.ErrNone", "paddock/api.ErrExists", "paddock/api.ErrKind", "paddock/api.ErrPath", "paddock/api.ErrGoal"], apart := false, laid := [("paddock/api.ErrRange", laid_paddock_api_ErrRange), ("paddock/api.ErrFull", laid_paddock_api_ErrFull), ("paddock/api.ErrNone", laid_paddock_api_ErrNone), ("paddock/api.ErrExists", laid_paddock_api_ErrExists), ("paddock/api.ErrKind", laid_paddock_api_ErrKind), ("paddock/api.ErrState", laid_paddock_api_ErrState), ("paddock/api.ErrForm", laid_paddock_api_ErrForm), ("paddock/api.ErrBlocked", laid_paddock_api_ErrBlocked), ("paddock/api.ErrPath", laid_paddock_api_ErrPath), ("paddock/api.ErrGoal", laid_paddock_api_ErrGoal)], narrowed := true }
def RegionPlaysUptoSaid : Prop := regionPlaysUptoRow.holds Tryd.pinned (OpenSpec.upto regionPlaysSpec)

end Rows
end Go.Proofs.YtbgbfljbjpbinaaDoor

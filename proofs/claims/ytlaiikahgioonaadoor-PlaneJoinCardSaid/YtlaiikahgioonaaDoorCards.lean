/-
  DERIVED. GIVEN WITH THE SEED: THE CARDS: each row of YtlaiikahgioonaaDoorRows.lean that lists a variable, with what it lists TIED to the program's text (the seventh form; the later family's looks); each row that meets fmt, with fmt's text TOLD by the authors' own Lean function (tested against real Go, not proved from fmt's source: count such statements apart). THE CARD IS WHAT COUNTS. Prove the row's statement (the work); the ties are given (YtlaiikahgioonaaDoorTie.lean); close each card by the builder's one call (the guide's Derived/Test/ToyasCard.lean, 'card_holds'). Laid BY PROGRAM, IN A SANDBOX (cutbox-door.mjs). By AI agents, Wed Nov 11 2026. No macro, syntax, notation, axiom, sorry.
-/
import Derived.Test.YtlaiikahgioonaaDoorRows
import GoSem.ClaimSeven
namespace Go.Proofs.YtlaiikahgioonaaDoor
namespace Rows

/-- THE TIED CARD OF 'paddocklaw01.PlaneRight'. -/
def planeRightCard : Claim7 := { stood := { row := planeRightRow, standIns := [], harness := (true, "654c390da7707ca8ab7c17b26ba99179f0dd33cffdb5c5ca3df430fb19258ac2"), looks := true }, kinds := [], alts := [], laidByText := true, laidKinds := [.sentinel], laidTests := true, laidLooks := .later }
def PlaneRightCardSaid : Prop := Claim7.holds Tryd.pinned (.plain (OpenSpec.ofChange planeRightSpec)) planeRightCard

/-- THE TIED CARD OF 'paddocklaw01.PlaneHas'. -/
def planeHasCard : Claim7 := { stood := { row := planeHasRow, standIns := [], harness := (true, "654c390da7707ca8ab7c17b26ba99179f0dd33cffdb5c5ca3df430fb19258ac2"), looks := true }, kinds := [], alts := [], laidByText := true, laidKinds := [.sentinel], laidTests := true, laidLooks := .later }
def PlaneHasCardSaid : Prop := Claim7.holds Tryd.pinned (.plain (OpenSpec.ofChange planeHasSpec)) planeHasCard

/-- THE TIED CARD OF 'paddocklaw01.PlaneMeets'. -/
def planeMeetsCard : Claim7 := { stood := { row := planeMeetsRow, standIns := [], harness := (true, "654c390da7707ca8ab7c17b26ba99179f0dd33cffdb5c5ca3df430fb19258ac2"), looks := true }, kinds := [], alts := [], laidByText := true, laidKinds := [.sentinel], laidTests := true, laidLooks := .later }
def PlaneMeetsCardSaid : Prop := Claim7.holds Tryd.pinned (.plain (OpenSpec.ofChange planeMeetsSpec)) planeMeetsCard

/-- THE TIED CARD OF 'paddocklaw01.PlaneShift'. -/
def planeShiftCard : Claim7 := { stood := { row := planeShiftRow, standIns := [], harness := (true, "654c390da7707ca8ab7c17b26ba99179f0dd33cffdb5c5ca3df430fb19258ac2"), looks := true }, kinds := [], alts := [], laidByText := true, laidKinds := [.sentinel], laidTests := true, laidLooks := .later }
def PlaneShiftCardSaid : Prop := Claim7.holds Tryd.pinned (.plain (OpenSpec.ofChange planeShiftSpec)) planeShiftCard

/-- THE TIED CARD OF 'paddocklaw01.PlaneTurned'. -/
def planeTurnedCard : Claim7 := { stood := { row := planeTurnedRow, standIns := [], harness := (true, "654c390da7707ca8ab7c17b26ba99179f0dd33cffdb5c5ca3df430fb19258ac2"), looks := true }, kinds := [], alts := [], laidByText := true, laidKinds := [.sentinel, .sentinel], laidTests := true, laidLooks := .later }
def PlaneTurnedCardSaid : Prop := Claim7.holds Tryd.pinned (.plain (OpenSpec.ofChange planeTurnedSpec)) planeTurnedCard

/-- THE TIED CARD OF 'paddocklaw01.PlaneWithin'. -/
def planeWithinCard : Claim7 := { stood := { row := planeWithinRow, standIns := [], harness := (true, "654c390da7707ca8ab7c17b26ba99179f0dd33cffdb5c5ca3df430fb19258ac2"), looks := true }, kinds := [], alts := [], laidByText := true, laidKinds := [.sentinel, .sentinel, .sentinel], laidTests := true, laidLooks := .later }
def PlaneWithinCardSaid : Prop := Claim7.holds Tryd.pinned (.plain (OpenSpec.ofChange planeWithinSpec)) planeWithinCard

/-- THE TIED CARD OF 'paddocklaw01.PlaneOf'. -/
def planeOfCard : Claim7 := { stood := { row := planeOfRow, standIns := [], harness := (true, "654c390da7707ca8ab7c17b26ba99179f0dd33cffdb5c5ca3df430fb19258ac2"), looks := true }, kinds := [], alts := [], laidByText := true, laidKinds := [.sentinel, .sentinel, .sentinel, .sentinel, .sentinel, .sentinel, .sentinel, .sentinel, .sentinel, .sentinel], laidTests := true, laidLooks := .later }
def PlaneOfCardSaid : Prop := Claim7.holds Tryd.pinned (.plain (OpenSpec.ofChange planeOfSpec)) planeOfCard

/-- THE TIED CARD OF 'paddocklaw01.PlaneCentre'. -/
def planeCentreCard : Claim7 := { stood := { row := planeCentreRow, standIns := [], harness := (true, "654c390da7707ca8ab7c17b26ba99179f0dd33cffdb5c5ca3df430fb19258ac2"), looks := true }, kinds := [], alts := [], laidByText := true, laidKinds := [.sentinel, .sentinel, .sentinel, .sentinel, .sentinel, .sentinel, .sentinel, .sentinel, .sentinel, .sentinel], laidTests := true, laidLooks := .later }
def PlaneCentreCardSaid : Prop := Claim7.holds Tryd.pinned (.plain (OpenSpec.ofChange planeCentreSpec)) planeCentreCard

/-- THE TIED CARD OF 'paddocklaw01.PlaneDist'. -/
def planeDistCard : Claim7 := { stood := { row := planeDistRow, standIns := [], harness := (true, "654c390da7707ca8ab7c17b26ba99179f0dd33cffdb5c5ca3df430fb19258ac2"), looks := true }, kinds := [], alts := [], laidByText := true, laidKinds := [.sentinel, .sentinel, .sentinel, .sentinel, .sentinel, .sentinel, .sentinel, .sentinel, .sentinel, .sentinel], laidTests := true, laidLooks := .later }
def PlaneDistCardSaid : Prop := Claim7.holds Tryd.pinned (.plain (OpenSpec.ofChange planeDistSpec)) planeDistCard

/-- THE TIED CARD OF 'paddocklaw01.PlaneGap'. -/
def planeGapCard : Claim7 := { stood := { row := planeGapRow, standIns := [], harness := (true, "654c390da7707ca8ab7c17b26ba99179f0dd33cffdb5c5ca3df430fb19258ac2"), looks := true }, kinds := [], alts := [], laidByText := true, laidKinds := [.sentinel, .sentinel, .sentinel, .sentinel, .sentinel, .sentinel, .sentinel, .sentinel, .sentinel, .sentinel], laidTests := true, laidLooks := .later }
def PlaneGapCardSaid : Prop := Claim7.holds Tryd.pinned (.plain (OpenSpec.ofChange planeGapSpec)) planeGapCard

/-- THE TIED CARD OF 'paddocklaw01.PlaneJoin'. -/
def planeJoinCard : Claim7 := { stood := { row := planeJoinRow, standIns := [], harness := (true, "654c390da7707ca8ab7c17b26ba99179f0dd33cffdb5c5ca3df430fb19258ac2"), looks := true }, kinds := [], alts := [], laidByText := true, laidKinds := [.sentinel, .sentinel, .sentinel, .sentinel, .sentinel, .sentinel, .sentinel, .sentinel, .sentinel, .sentinel], laidTests := true, laidLooks := .later }
def PlaneJoinCardSaid : Prop := Claim7.holds Tryd.pinned (.plain (OpenSpec.ofChange planeJoinSpec)) planeJoinCard

/-- THE SECOND FORM's CARD OF 'paddocklaw01.PlaneRight'. -/
def planeRightUptoCard : Claim7 := { stood := { row := planeRightUptoRow, standIns := [], harness := (true, "654c390da7707ca8ab7c17b26ba99179f0dd33cffdb5c5ca3df430fb19258ac2"), looks := true }, kinds := [], alts := [], laidByText := true, laidKinds := [.sentinel], laidTests := true, laidLooks := .later }
def PlaneRightUptoCardSaid : Prop := Claim7.holds Tryd.pinned (.plain (OpenSpec.upto planeRightSpec)) planeRightUptoCard

/-- THE SECOND FORM's CARD OF 'paddocklaw01.PlaneHas'. -/
def planeHasUptoCard : Claim7 := { stood := { row := planeHasUptoRow, standIns := [], harness := (true, "654c390da7707ca8ab7c17b26ba99179f0dd33cffdb5c5ca3df430fb19258ac2"), looks := true }, kinds := [], alts := [], laidByText := true, laidKinds := [.sentinel], laidTests := true, laidLooks := .later }
def PlaneHasUptoCardSaid : Prop := Claim7.holds Tryd.pinned (.plain (OpenSpec.upto planeHasSpec)) planeHasUptoCard

/-- THE SECOND FORM's CARD OF 'paddocklaw01.PlaneMeets'. -/
def planeMeetsUptoCard : Claim7 := { stood := { row := planeMeetsUptoRow, standIns := [], harness := (true, "654c390da7707ca8ab7c17b26ba99179f0dd33cffdb5c5ca3df430fb19258ac2"), looks := true }, kinds := [], alts := [], laidByText := true, laidKinds := [.sentinel], laidTests := true, laidLooks := .later }
def PlaneMeetsUptoCardSaid : Prop := Claim7.holds Tryd.pinned (.plain (OpenSpec.upto planeMeetsSpec)) planeMeetsUptoCard

/-- THE SECOND FORM's CARD OF 'paddocklaw01.PlaneShift'. -/
def planeShiftUptoCard : Claim7 := { stood := { row := planeShiftUptoRow, standIns := [], harness := (true, "654c390da7707ca8ab7c17b26ba99179f0dd33cffdb5c5ca3df430fb19258ac2"), looks := true }, kinds := [], alts := [], laidByText := true, laidKinds := [.sentinel], laidTests := true, laidLooks := .later }
def PlaneShiftUptoCardSaid : Prop := Claim7.holds Tryd.pinned (.plain (OpenSpec.upto planeShiftSpec)) planeShiftUptoCard

/-- THE SECOND FORM's CARD OF 'paddocklaw01.PlaneTurned'. -/
def planeTurnedUptoCard : Claim7 := { stood := { row := planeTurnedUptoRow, standIns := [], harness := (true, "654c390da7707ca8ab7c17b26ba99179f0dd33cffdb5c5ca3df430fb19258ac2"), looks := true }, kinds := [], alts := [], laidByText := true, laidKinds := [.sentinel, .sentinel], laidTests := true, laidLooks := .later }
def PlaneTurnedUptoCardSaid : Prop := Claim7.holds Tryd.pinned (.plain (OpenSpec.upto planeTurnedSpec)) planeTurnedUptoCard

/-- THE SECOND FORM's CARD OF 'paddocklaw01.PlaneWithin'. -/
def planeWithinUptoCard : Claim7 := { stood := { row := planeWithinUptoRow, standIns := [], harness := (true, "654c390da7707ca8ab7c17b26ba99179f0dd33cffdb5c5ca3df430fb19258ac2"), looks := true }, kinds := [], alts := [], laidByText := true, laidKinds := [.sentinel, .sentinel, .sentinel], laidTests := true, laidLooks := .later }
def PlaneWithinUptoCardSaid : Prop := Claim7.holds Tryd.pinned (.plain (OpenSpec.upto planeWithinSpec)) planeWithinUptoCard

/-- THE SECOND FORM's CARD OF 'paddocklaw01.PlaneOf'. -/
def planeOfUptoCard : Claim7 := { stood := { row := planeOfUptoRow, standIns := [], harness := (true, "654c390da7707ca8ab7c17b26ba99179f0dd33cffdb5c5ca3df430fb19258ac2"), looks := true }, kinds := [], alts := [], laidByText := true, laidKinds := [.sentinel, .sentinel, .sentinel, .sentinel, .sentinel, .sentinel, .sentinel, .sentinel, .sentinel, .sentinel], laidTests := true, laidLooks := .later }
def PlaneOfUptoCardSaid : Prop := Claim7.holds Tryd.pinned (.plain (OpenSpec.upto planeOfSpec)) planeOfUptoCard

/-- THE SECOND FORM's CARD OF 'paddocklaw01.PlaneCentre'. -/
def planeCentreUptoCard : Claim7 := { stood := { row := planeCentreUptoRow, standIns := [], harness := (true, "654c390da7707ca8ab7c17b26ba99179f0dd33cffdb5c5ca3df430fb19258ac2"), looks := true }, kinds := [], alts := [], laidByText := true, laidKinds := [.sentinel, .sentinel, .sentinel, .sentinel, .sentinel, .sentinel, .sentinel, .sentinel, .sentinel, .sentinel], laidTests := true, laidLooks := .later }
def PlaneCentreUptoCardSaid : Prop := Claim7.holds Tryd.pinned (.plain (OpenSpec.upto planeCentreSpec)) planeCentreUptoCard

/-- THE SECOND FORM's CARD OF 'paddocklaw01.PlaneDist'. -/
def planeDistUptoCard : Claim7 := { stood := { row := planeDistUptoRow, standIns := [], harness := (true, "654c390da7707ca8ab7c17b26ba99179f0dd33cffdb5c5ca3df430fb19258ac2"), looks := true }, kinds := [], alts := [], laidByText := true, laidKinds := [.sentinel, .sentinel, .sentinel, .sentinel, .sentinel, .sentinel, .sentinel, .sentinel, .sentinel, .sentinel], laidTests := true, laidLooks := .later }
def PlaneDistUptoCardSaid : Prop := Claim7.holds Tryd.pinned (.plain (OpenSpec.upto planeDistSpec)) planeDistUptoCard

/-- THE SECOND FORM's CARD OF 'paddocklaw01.PlaneGap'. -/
def planeGapUptoCard : Claim7 := { stood := { row := planeGapUptoRow, standIns := [], harness := (true, "654c390da7707ca8ab7c17b26ba99179f0dd33cffdb5c5ca3df430fb19258ac2"), looks := true }, kinds := [], alts := [], laidByText := true, laidKinds := [.sentinel, .sentinel, .sentinel, .sentinel, .sentinel, .sentinel, .sentinel, .sentinel, .sentinel, .sentinel], laidTests := true, laidLooks := .later }
def PlaneGapUptoCardSaid : Prop := Claim7.holds Tryd.pinned (.plain (OpenSpec.upto planeGapSpec)) planeGapUptoCard

/-- THE SECOND FORM's CARD OF 'paddocklaw01.PlaneJoin'. -/
def planeJoinUptoCard : Claim7 := { stood := { row := planeJoinUptoRow, standIns := [], harness := (true, "654c390da7707ca8ab7c17b26ba99179f0dd33cffdb5c5ca3df430fb19258ac2"), looks := true }, kinds := [], alts := [], laidByText := true, laidKinds := [.sentinel, .sentinel, .sentinel, .sentinel, .sentinel, .sentinel, .sentinel, .sentinel, .sentinel, .sentinel], laidTests := true, laidLooks := .later }
def PlaneJoinUptoCardSaid : Prop := Claim7.holds Tryd.pinned (.plain (OpenSpec.upto planeJoinSpec)) planeJoinUptoCard
end Rows
end Go.Proofs.YtlaiikahgioonaaDoor

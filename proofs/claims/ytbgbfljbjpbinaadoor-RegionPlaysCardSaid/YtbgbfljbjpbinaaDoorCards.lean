/-
  DERIVED. GIVEN WITH THE SEED: THE CARDS: each row of YtbgbfljbjpbinaaDoorRows.lean that lists a variable, with what it lists TIED to the program's text (the seventh form; the later family's looks); each row that meets fmt, with fmt's text TOLD by the authors' own Lean function (tested against real Go, not proved from fmt's source: count such statements apart). THE CARD IS WHAT COUNTS. Prove the row's statement (the work); the ties are given (YtbgbfljbjpbinaaDoorTie.lean); close each card by the builder's one call (the guide's Derived/Test/ToyasCard.lean, 'card_holds'). Laid BY PROGRAM, IN A SANDBOX (cutbox-door.mjs). By AI agents, Wed Nov 11 2026. No macro, syntax, notation, axiom, sorry.
-/
import Derived.Test.YtbgbfljbjpbinaaDoorRows
import GoSem.ClaimSeven
namespace Go.Proofs.YtbgbfljbjpbinaaDoor
namespace Rows

/-- THE TIED CARD OF 'paddocklaw14.TilesUnder'. -/
def tilesUnderCard : Claim7 := { stood := { row := tilesUnderRow, standIns := [], harness := (true, "c807fba6d365b111819c830a4bc7f4aeb67f6025bdf50efbf1769e3d160864c9"), looks := true }, kinds := [], alts := [], laidByText := true, laidKinds := [.sentinel], laidTests := true, laidLooks := .later }
def TilesUnderCardSaid : Prop := Claim7.holds Tryd.pinned (.plain (OpenSpec.ofChange tilesUnderSpec)) tilesUnderCard

/-- THE TIED CARD OF 'paddocklaw14.TilesPlaces'. -/
def tilesPlacesCard : Claim7 := { stood := { row := tilesPlacesRow, standIns := [], harness := (true, "c807fba6d365b111819c830a4bc7f4aeb67f6025bdf50efbf1769e3d160864c9"), looks := true }, kinds := [], alts := [], laidByText := true, laidKinds := [.sentinel, .sentinel], laidTests := true, laidLooks := .later }
def TilesPlacesCardSaid : Prop := Claim7.holds Tryd.pinned (.plain (OpenSpec.ofChange tilesPlacesSpec)) tilesPlacesCard

/-- THE TIED CARD OF 'paddocklaw14.TilesSums'. -/
def tilesSumsCard : Claim7 := { stood := { row := tilesSumsRow, standIns := [], harness := (true, "c807fba6d365b111819c830a4bc7f4aeb67f6025bdf50efbf1769e3d160864c9"), looks := true }, kinds := [], alts := [], laidByText := true, laidKinds := [.sentinel, .sentinel], laidTests := true, laidLooks := .later }
def TilesSumsCardSaid : Prop := Claim7.holds Tryd.pinned (.plain (OpenSpec.ofChange tilesSumsSpec)) tilesSumsCard

/-- THE TIED CARD OF 'paddocklaw14.TilesAt'. -/
def tilesAtCard : Claim7 := { stood := { row := tilesAtRow, standIns := [], harness := (true, "c807fba6d365b111819c830a4bc7f4aeb67f6025bdf50efbf1769e3d160864c9"), looks := true }, kinds := [], alts := [], laidByText := true, laidKinds := [.sentinel, .sentinel, .sentinel, .sentinel, .sentinel, .sentinel, .sentinel, .sentinel, .sentinel, .sentinel], laidTests := true, laidLooks := .later }
def TilesAtCardSaid : Prop := Claim7.holds Tryd.pinned (.plain (OpenSpec.ofChange tilesAtSpec)) tilesAtCard

/-- THE TIED CARD OF 'paddocklaw14.TilesBack'. -/
def tilesBackCard : Claim7 := { stood := { row := tilesBackRow, standIns := [], harness := (true, "c807fba6d365b111819c830a4bc7f4aeb67f6025bdf50efbf1769e3d160864c9"), looks := true }, kinds := [], alts := [], laidByText := true, laidKinds := [.sentinel, .sentinel, .sentinel], laidTests := true, laidLooks := .later }
def TilesBackCardSaid : Prop := Claim7.holds Tryd.pinned (.plain (OpenSpec.ofChange tilesBackSpec)) tilesBackCard

/-- THE TIED CARD OF 'paddocklaw15.RegionNext'. -/
def regionNextCard : Claim7 := { stood := { row := regionNextRow, standIns := [], harness := (true, "c807fba6d365b111819c830a4bc7f4aeb67f6025bdf50efbf1769e3d160864c9"), looks := true }, kinds := [], alts := [], laidByText := true, laidKinds := [.sentinel, .sentinel, .sentinel, .sentinel], laidTests := true, laidLooks := .later }
def RegionNextCardSaid : Prop := Claim7.holds Tryd.pinned (.plain (OpenSpec.ofChange regionNextSpec)) regionNextCard

/-- THE TIED CARD OF 'paddocklaw15.RegionBack'. -/
def regionBackCard : Claim7 := { stood := { row := regionBackRow, standIns := [], harness := (true, "c807fba6d365b111819c830a4bc7f4aeb67f6025bdf50efbf1769e3d160864c9"), looks := true }, kinds := [], alts := [], laidByText := true, laidKinds := [.sentinel, .sentinel, .sentinel, .sentinel], laidTests := true, laidLooks := .later }
def RegionBackCardSaid : Prop := Claim7.holds Tryd.pinned (.plain (OpenSpec.ofChange regionBackSpec)) regionBackCard

/-- THE TIED CARD OF 'paddocklaw14.TilesPlays'. -/
def tilesPlaysCard : Claim7 := { stood := { row := tilesPlaysRow, standIns := [], harness := (true, "c807fba6d365b111819c830a4bc7f4aeb67f6025bdf50efbf1769e3d160864c9"), looks := true }, kinds := [], alts := [], laidByText := true, laidKinds := [.sentinel, .sentinel, .sentinel, .sentinel, .sentinel, .sentinel, .sentinel, .sentinel, .sentinel, .sentinel], laidTests := true, laidLooks := .later }
def TilesPlaysCardSaid : Prop := Claim7.holds Tryd.pinned (.plain (OpenSpec.ofChange tilesPlaysSpec)) tilesPlaysCard

/-- THE TIED CARD OF 'paddocklaw15.RegionSums'. -/
def regionSumsCard : Claim7 := { stood := { row := regionSumsRow, standIns := [], harness := (true, "c807fba6d365b111819c830a4bc7f4aeb67f6025bdf50efbf1769e3d160864c9"), looks := true }, kinds := [], alts := [], laidByText := true, laidKinds := [.sentinel, .sentinel, .sentinel, .sentinel], laidTests := true, laidLooks := .later }
def RegionSumsCardSaid : Prop := Claim7.holds Tryd.pinned (.plain (OpenSpec.ofChange regionSumsSpec)) regionSumsCard

/-- THE TIED CARD OF 'paddocklaw15.RegionPlays'. -/
def regionPlaysCard : Claim7 := { stood := { row := regionPlaysRow, standIns := [], harness := (true, "c807fba6d365b111819c830a4bc7f4aeb67f6025bdf50efbf1769e3d160864c9"), looks := true }, kinds := [], alts := [], laidByText := true, laidKinds := [.sentinel, .sentinel, .sentinel, .sentinel, .sentinel, .sentinel, .sentinel, .sentinel, .sentinel, .sentinel], laidTests := true, laidLooks := .later }
def RegionPlaysCardSaid : Prop := Claim7.holds Tryd.pinned (.plain (OpenSpec.ofChange regionPlaysSpec)) regionPlaysCard

/-- THE SECOND FORM's CARD OF 'paddocklaw14.TilesUnder'. -/
def tilesUnderUptoCard : Claim7 := { stood := { row := tilesUnderUptoRow, standIns := [], harness := (true, "c807fba6d365b111819c830a4bc7f4aeb67f6025bdf50efbf1769e3d160864c9"), looks := true }, kinds := [], alts := [], laidByText := true, laidKinds := [.sentinel], laidTests := true, laidLooks := .later }
def TilesUnderUptoCardSaid : Prop := Claim7.holds Tryd.pinned (.plain (OpenSpec.upto tilesUnderSpec)) tilesUnderUptoCard

/-- THE SECOND FORM's CARD OF 'paddocklaw14.TilesPlaces'. -/
def tilesPlacesUptoCard : Claim7 := { stood := { row := tilesPlacesUptoRow, standIns := [], harness := (true, "c807fba6d365b111819c830a4bc7f4aeb67f6025bdf50efbf1769e3d160864c9"), looks := true }, kinds := [], alts := [], laidByText := true, laidKinds := [.sentinel, .sentinel], laidTests := true, laidLooks := .later }
def TilesPlacesUptoCardSaid : Prop := Claim7.holds Tryd.pinned (.plain (OpenSpec.upto tilesPlacesSpec)) tilesPlacesUptoCard

/-- THE SECOND FORM's CARD OF 'paddocklaw14.TilesSums'. -/
def tilesSumsUptoCard : Claim7 := { stood := { row := tilesSumsUptoRow, standIns := [], harness := (true, "c807fba6d365b111819c830a4bc7f4aeb67f6025bdf50efbf1769e3d160864c9"), looks := true }, kinds := [], alts := [], laidByText := true, laidKinds := [.sentinel, .sentinel], laidTests := true, laidLooks := .later }
def TilesSumsUptoCardSaid : Prop := Claim7.holds Tryd.pinned (.plain (OpenSpec.upto tilesSumsSpec)) tilesSumsUptoCard

/-- THE SECOND FORM's CARD OF 'paddocklaw14.TilesAt'. -/
def tilesAtUptoCard : Claim7 := { stood := { row := tilesAtUptoRow, standIns := [], harness := (true, "c807fba6d365b111819c830a4bc7f4aeb67f6025bdf50efbf1769e3d160864c9"), looks := true }, kinds := [], alts := [], laidByText := true, laidKinds := [.sentinel, .sentinel, .sentinel, .sentinel, .sentinel, .sentinel, .sentinel, .sentinel, .sentinel, .sentinel], laidTests := true, laidLooks := .later }
def TilesAtUptoCardSaid : Prop := Claim7.holds Tryd.pinned (.plain (OpenSpec.upto tilesAtSpec)) tilesAtUptoCard

/-- THE SECOND FORM's CARD OF 'paddocklaw14.TilesBack'. -/
def tilesBackUptoCard : Claim7 := { stood := { row := tilesBackUptoRow, standIns := [], harness := (true, "c807fba6d365b111819c830a4bc7f4aeb67f6025bdf50efbf1769e3d160864c9"), looks := true }, kinds := [], alts := [], laidByText := true, laidKinds := [.sentinel, .sentinel, .sentinel], laidTests := true, laidLooks := .later }
def TilesBackUptoCardSaid : Prop := Claim7.holds Tryd.pinned (.plain (OpenSpec.upto tilesBackSpec)) tilesBackUptoCard

/-- THE SECOND FORM's CARD OF 'paddocklaw15.RegionNext'. -/
def regionNextUptoCard : Claim7 := { stood := { row := regionNextUptoRow, standIns := [], harness := (true, "c807fba6d365b111819c830a4bc7f4aeb67f6025bdf50efbf1769e3d160864c9"), looks := true }, kinds := [], alts := [], laidByText := true, laidKinds := [.sentinel, .sentinel, .sentinel, .sentinel], laidTests := true, laidLooks := .later }
def RegionNextUptoCardSaid : Prop := Claim7.holds Tryd.pinned (.plain (OpenSpec.upto regionNextSpec)) regionNextUptoCard

/-- THE SECOND FORM's CARD OF 'paddocklaw15.RegionBack'. -/
def regionBackUptoCard : Claim7 := { stood := { row := regionBackUptoRow, standIns := [], harness := (true, "c807fba6d365b111819c830a4bc7f4aeb67f6025bdf50efbf1769e3d160864c9"), looks := true }, kinds := [], alts := [], laidByText := true, laidKinds := [.sentinel, .sentinel, .sentinel, .sentinel], laidTests := true, laidLooks := .later }
def RegionBackUptoCardSaid : Prop := Claim7.holds Tryd.pinned (.plain (OpenSpec.upto regionBackSpec)) regionBackUptoCard

/-- THE SECOND FORM's CARD OF 'paddocklaw14.TilesPlays'. -/
def tilesPlaysUptoCard : Claim7 := { stood := { row := tilesPlaysUptoRow, standIns := [], harness := (true, "c807fba6d365b111819c830a4bc7f4aeb67f6025bdf50efbf1769e3d160864c9"), looks := true }, kinds := [], alts := [], laidByText := true, laidKinds := [.sentinel, .sentinel, .sentinel, .sentinel, .sentinel, .sentinel, .sentinel, .sentinel, .sentinel, .sentinel], laidTests := true, laidLooks := .later }
def TilesPlaysUptoCardSaid : Prop := Claim7.holds Tryd.pinned (.plain (OpenSpec.upto tilesPlaysSpec)) tilesPlaysUptoCard

/-- THE SECOND FORM's CARD OF 'paddocklaw15.RegionSums'. -/
def regionSumsUptoCard : Claim7 := { stood := { row := regionSumsUptoRow, standIns := [], harness := (true, "c807fba6d365b111819c830a4bc7f4aeb67f6025bdf50efbf1769e3d160864c9"), looks := true }, kinds := [], alts := [], laidByText := true, laidKinds := [.sentinel, .sentinel, .sentinel, .sentinel], laidTests := true, laidLooks := .later }
def RegionSumsUptoCardSaid : Prop := Claim7.holds Tryd.pinned (.plain (OpenSpec.upto regionSumsSpec)) regionSumsUptoCard

/-- THE SECOND FORM's CARD OF 'paddocklaw15.RegionPlays'. -/
def regionPlaysUptoCard : Claim7 := { stood := { row := regionPlaysUptoRow, standIns := [], harness := (true, "c807fba6d365b111819c830a4bc7f4aeb67f6025bdf50efbf1769e3d160864c9"), looks := true }, kinds := [], alts := [], laidByText := true, laidKinds := [.sentinel, .sentinel, .sentinel, .sentinel, .sentinel, .sentinel, .sentinel, .sentinel, .sentinel, .sentinel], laidTests := true, laidLooks := .later }
def RegionPlaysUptoCardSaid : Prop := Claim7.holds Tryd.pinned (.plain (OpenSpec.upto regionPlaysSpec)) regionPlaysUptoCard
end Rows
end Go.Proofs.YtbgbfljbjpbinaaDoor

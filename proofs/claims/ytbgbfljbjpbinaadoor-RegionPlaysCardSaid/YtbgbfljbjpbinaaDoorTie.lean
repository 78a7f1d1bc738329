/-
  DERIVED. GIVEN WITH THE SEED: THE PROGRAM's TIES (one call each: nine closed facts by the kernel) AND EACH ROW's TIE, after the 31st guide's Derived/Test/Toyas{Tie, Card}.lean. No idea stands in it: it is a product of the set-up. Laid BY PROGRAM, IN A SANDBOX (cutbox-door.mjs). By AI agents, Wed Nov 11 2026. No macro, syntax, notation, axiom, sorry.
-/
import Derived.Test.YtbgbfljbjpbinaaDoorRows
import Derived.LaidByTextLater
import Derived.SevenTiedAt
import Derived.LaidSub
import Derived.LaidOnce
namespace Go.Proofs.YtbgbfljbjpbinaaDoor
open Go
set_option maxRecDepth 100000
theorem seatTie1 : Tryd.prog.laidByTextLater [("paddock/api.ErrRange", Rows.laid_paddock_api_ErrRange), ("paddock/api.ErrFull", Rows.laid_paddock_api_ErrFull), ("paddock/api.ErrNone", Rows.laid_paddock_api_ErrNone), ("paddock/api.ErrExists", Rows.laid_paddock_api_ErrExists), ("paddock/api.ErrKind", Rows.laid_paddock_api_ErrKind), ("paddock/api.ErrState", Rows.laid_paddock_api_ErrState), ("paddock/api.ErrForm", Rows.laid_paddock_api_ErrForm), ("paddock/api.ErrBlocked", Rows.laid_paddock_api_ErrBlocked), ("paddock/api.ErrPath", Rows.laid_paddock_api_ErrPath), ("paddock/api.ErrGoal", Rows.laid_paddock_api_ErrGoal)] [.sentinel, .sentinel, .sentinel, .sentinel, .sentinel, .sentinel, .sentinel, .sentinel, .sentinel, .sentinel] true :=
  Program.laidByTextLater_by_one 199 8 2 (by kernel_rfl) (by kernel_rfl) (by kernel_rfl) (by kernel_rfl) (by kernel_rfl) (by kernel_rfl) (fun _ _ => by kernel_rfl)
theorem noOwnUnsafe : Tryd.pinned.checked.prog.headLifts.contains "ownunsafe" = false := by kernel_rfl
theorem tie : Tryd.prog.laidByTextLater [("paddock/api.ErrRange", Rows.laid_paddock_api_ErrRange)] [.sentinel] true :=
  Program.laidByTextLater.sub seatTie1 ["paddock/api.ErrRange"] (by kernel_rfl) (by kernel_rfl)
theorem tilesUnder_row_tie : Rows.tilesUnderRow.laidByTextAt .later Tryd.pinned [.sentinel] true :=
  OpenClaim.laidByTextAt_later rfl rfl tie noOwnUnsafe
theorem tie2 : Tryd.prog.laidByTextLater [("paddock/api.ErrRange", Rows.laid_paddock_api_ErrRange), ("paddock/api.ErrForm", Rows.laid_paddock_api_ErrForm)] [.sentinel, .sentinel] true :=
  Program.laidByTextLater.sub seatTie1 ["paddock/api.ErrRange", "paddock/api.ErrForm"] (by kernel_rfl) (by kernel_rfl)
theorem tilesPlaces_row_tie : Rows.tilesPlacesRow.laidByTextAt .later Tryd.pinned [.sentinel, .sentinel] true :=
  OpenClaim.laidByTextAt_later rfl rfl tie2 noOwnUnsafe
theorem tilesSums_row_tie : Rows.tilesSumsRow.laidByTextAt .later Tryd.pinned [.sentinel, .sentinel] true :=
  OpenClaim.laidByTextAt_later rfl rfl tie2 noOwnUnsafe
theorem tie3 : Tryd.prog.laidByTextLater [("paddock/api.ErrRange", Rows.laid_paddock_api_ErrRange), ("paddock/api.ErrFull", Rows.laid_paddock_api_ErrFull), ("paddock/api.ErrNone", Rows.laid_paddock_api_ErrNone), ("paddock/api.ErrExists", Rows.laid_paddock_api_ErrExists), ("paddock/api.ErrKind", Rows.laid_paddock_api_ErrKind), ("paddock/api.ErrState", Rows.laid_paddock_api_ErrState), ("paddock/api.ErrForm", Rows.laid_paddock_api_ErrForm), ("paddock/api.ErrBlocked", Rows.laid_paddock_api_ErrBlocked), ("paddock/api.ErrPath", Rows.laid_paddock_api_ErrPath), ("paddock/api.ErrGoal", Rows.laid_paddock_api_ErrGoal)] [.sentinel, .sentinel, .sentinel, .sentinel, .sentinel, .sentinel, .sentinel, .sentinel, .sentinel, .sentinel] true :=
  Program.laidByTextLater.sub seatTie1 ["paddock/api.ErrRange", "paddock/api.ErrFull", "paddock/api.ErrNone", "paddock/api.ErrExists", "paddock/api.ErrKind", "paddock/api.ErrState", "paddock/api.ErrForm", "paddock/api.ErrBlocked", "paddock/api.ErrPath", "paddock/api.ErrGoal"] (by kernel_rfl) (by kernel_rfl)
theorem tilesAt_row_tie : Rows.tilesAtRow.laidByTextAt .later Tryd.pinned [.sentinel, .sentinel, .sentinel, .sentinel, .sentinel, .sentinel, .sentinel, .sentinel, .sentinel, .sentinel] true :=
  OpenClaim.laidByTextAt_later rfl rfl tie3 noOwnUnsafe
theorem tilesPlays_row_tie : Rows.tilesPlaysRow.laidByTextAt .later Tryd.pinned [.sentinel, .sentinel, .sentinel, .sentinel, .sentinel, .sentinel, .sentinel, .sentinel, .sentinel, .sentinel] true :=
  OpenClaim.laidByTextAt_later rfl rfl tie3 noOwnUnsafe
theorem regionPlays_row_tie : Rows.regionPlaysRow.laidByTextAt .later Tryd.pinned [.sentinel, .sentinel, .sentinel, .sentinel, .sentinel, .sentinel, .sentinel, .sentinel, .sentinel, .sentinel] true :=
  OpenClaim.laidByTextAt_later rfl rfl tie3 noOwnUnsafe
theorem tie4 : Tryd.prog.laidByTextLater [("paddock/api.ErrRange", Rows.laid_paddock_api_ErrRange), ("paddock/api.ErrNone", Rows.laid_paddock_api_ErrNone), ("paddock/api.ErrForm", Rows.laid_paddock_api_ErrForm)] [.sentinel, .sentinel, .sentinel] true :=
  Program.laidByTextLater.sub seatTie1 ["paddock/api.ErrRange", "paddock/api.ErrNone", "paddock/api.ErrForm"] (by kernel_rfl) (by kernel_rfl)
theorem tilesBack_row_tie : Rows.tilesBackRow.laidByTextAt .later Tryd.pinned [.sentinel, .sentinel, .sentinel] true :=
  OpenClaim.laidByTextAt_later rfl rfl tie4 noOwnUnsafe
theorem tie5 : Tryd.prog.laidByTextLater [("paddock/api.ErrRange", Rows.laid_paddock_api_ErrRange), ("paddock/api.ErrState", Rows.laid_paddock_api_ErrState), ("paddock/api.ErrForm", Rows.laid_paddock_api_ErrForm), ("paddock/api.ErrBlocked", Rows.laid_paddock_api_ErrBlocked)] [.sentinel, .sentinel, .sentinel, .sentinel] true :=
  Program.laidByTextLater.sub seatTie1 ["paddock/api.ErrRange", "paddock/api.ErrState", "paddock/api.ErrForm", "paddock/api.ErrBlocked"] (by kernel_rfl) (by kernel_rfl)
theorem regionNext_row_tie : Rows.regionNextRow.laidByTextAt .later Tryd.pinned [.sentinel, .sentinel, .sentinel, .sentinel] true :=
  OpenClaim.laidByTextAt_later rfl rfl tie5 noOwnUnsafe
theorem regionBack_row_tie : Rows.regionBackRow.laidByTextAt .later Tryd.pinned [.sentinel, .sentinel, .sentinel, .sentinel] true :=
  OpenClaim.laidByTextAt_later rfl rfl tie5 noOwnUnsafe
theorem regionSums_row_tie : Rows.regionSumsRow.laidByTextAt .later Tryd.pinned [.sentinel, .sentinel, .sentinel, .sentinel] true :=
  OpenClaim.laidByTextAt_later rfl rfl tie5 noOwnUnsafe
theorem tilesUnderUpto_row_tie : Rows.tilesUnderUptoRow.laidByTextAt .later Tryd.pinned [.sentinel] true :=
  OpenClaim.laidByTextAt_later rfl rfl tie noOwnUnsafe
theorem tilesPlacesUpto_row_tie : Rows.tilesPlacesUptoRow.laidByTextAt .later Tryd.pinned [.sentinel, .sentinel] true :=
  OpenClaim.laidByTextAt_later rfl rfl tie2 noOwnUnsafe
theorem tilesSumsUpto_row_tie : Rows.tilesSumsUptoRow.laidByTextAt .later Tryd.pinned [.sentinel, .sentinel] true :=
  OpenClaim.laidByTextAt_later rfl rfl tie2 noOwnUnsafe
theorem tilesAtUpto_row_tie : Rows.tilesAtUptoRow.laidByTextAt .later Tryd.pinned [.sentinel, .sentinel, .sentinel, .sentinel, .sentinel, .sentinel, .sentinel, .sentinel, .sentinel, .sentinel] true :=
  OpenClaim.laidByTextAt_later rfl rfl tie3 noOwnUnsafe
theorem tilesBackUpto_row_tie : Rows.tilesBackUptoRow.laidByTextAt .later Tryd.pinned [.sentinel, .sentinel, .sentinel] true :=
  OpenClaim.laidByTextAt_later rfl rfl tie4 noOwnUnsafe
theorem regionNextUpto_row_tie : Rows.regionNextUptoRow.laidByTextAt .later Tryd.pinned [.sentinel, .sentinel, .sentinel, .sentinel] true :=
  OpenClaim.laidByTextAt_later rfl rfl tie5 noOwnUnsafe
theorem regionBackUpto_row_tie : Rows.regionBackUptoRow.laidByTextAt .later Tryd.pinned [.sentinel, .sentinel, .sentinel, .sentinel] true :=
  OpenClaim.laidByTextAt_later rfl rfl tie5 noOwnUnsafe
theorem tilesPlaysUpto_row_tie : Rows.tilesPlaysUptoRow.laidByTextAt .later Tryd.pinned [.sentinel, .sentinel, .sentinel, .sentinel, .sentinel, .sentinel, .sentinel, .sentinel, .sentinel, .sentinel] true :=
  OpenClaim.laidByTextAt_later rfl rfl tie3 noOwnUnsafe
theorem regionSumsUpto_row_tie : Rows.regionSumsUptoRow.laidByTextAt .later Tryd.pinned [.sentinel, .sentinel, .sentinel, .sentinel] true :=
  OpenClaim.laidByTextAt_later rfl rfl tie5 noOwnUnsafe
theorem regionPlaysUpto_row_tie : Rows.regionPlaysUptoRow.laidByTextAt .later Tryd.pinned [.sentinel, .sentinel, .sentinel, .sentinel, .sentinel, .sentinel, .sentinel, .sentinel, .sentinel, .sentinel] true :=
  OpenClaim.laidByTextAt_later rfl rfl tie3 noOwnUnsafe
end Go.Proofs.YtbgbfljbjpbinaaDoor

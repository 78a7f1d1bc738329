/-
  DERIVED. GIVEN WITH THE SEED: THE PROGRAM's TIES (one call each: nine closed facts by the kernel) AND EACH ROW's TIE, after the 31st guide's Derived/Test/Toyas{Tie, Card}.lean. No idea stands in it: it is a product of the set-up. Laid BY PROGRAM, IN A SANDBOX (cutbox-door.mjs). By AI agents, Wed Nov 11 2026. No macro, syntax, notation, axiom, sorry.
-/
import Derived.Test.YtlaiikahgioonaaDoorRows
import Derived.LaidByTextLater
import Derived.SevenTiedAt
import Derived.LaidSub
import Derived.LaidOnce
namespace Go.Proofs.YtlaiikahgioonaaDoor
open Go
set_option maxRecDepth 100000
theorem seatTie1 : Tryd.prog.laidByTextLater [("paddock/api.ErrRange", Rows.laid_paddock_api_ErrRange), ("paddock/api.ErrFull", Rows.laid_paddock_api_ErrFull), ("paddock/api.ErrNone", Rows.laid_paddock_api_ErrNone), ("paddock/api.ErrExists", Rows.laid_paddock_api_ErrExists), ("paddock/api.ErrKind", Rows.laid_paddock_api_ErrKind), ("paddock/api.ErrState", Rows.laid_paddock_api_ErrState), ("paddock/api.ErrForm", Rows.laid_paddock_api_ErrForm), ("paddock/api.ErrBlocked", Rows.laid_paddock_api_ErrBlocked), ("paddock/api.ErrPath", Rows.laid_paddock_api_ErrPath), ("paddock/api.ErrGoal", Rows.laid_paddock_api_ErrGoal)] [.sentinel, .sentinel, .sentinel, .sentinel, .sentinel, .sentinel, .sentinel, .sentinel, .sentinel, .sentinel] true :=
  Program.laidByTextLater_by_one 199 8 2 (by kernel_rfl) (by kernel_rfl) (by kernel_rfl) (by kernel_rfl) (by kernel_rfl) (by kernel_rfl) (fun _ _ => by kernel_rfl)
theorem noOwnUnsafe : Tryd.pinned.checked.prog.headLifts.contains "ownunsafe" = false := by kernel_rfl
theorem tie : Tryd.prog.laidByTextLater [("paddock/api.ErrRange", Rows.laid_paddock_api_ErrRange)] [.sentinel] true :=
  Program.laidByTextLater.sub seatTie1 ["paddock/api.ErrRange"] (by kernel_rfl) (by kernel_rfl)
theorem planeRight_row_tie : Rows.planeRightRow.laidByTextAt .later Tryd.pinned [.sentinel] true :=
  OpenClaim.laidByTextAt_later rfl rfl tie noOwnUnsafe
theorem planeHas_row_tie : Rows.planeHasRow.laidByTextAt .later Tryd.pinned [.sentinel] true :=
  OpenClaim.laidByTextAt_later rfl rfl tie noOwnUnsafe
theorem planeMeets_row_tie : Rows.planeMeetsRow.laidByTextAt .later Tryd.pinned [.sentinel] true :=
  OpenClaim.laidByTextAt_later rfl rfl tie noOwnUnsafe
theorem planeShift_row_tie : Rows.planeShiftRow.laidByTextAt .later Tryd.pinned [.sentinel] true :=
  OpenClaim.laidByTextAt_later rfl rfl tie noOwnUnsafe
theorem tie2 : Tryd.prog.laidByTextLater [("paddock/api.ErrRange", Rows.laid_paddock_api_ErrRange), ("paddock/api.ErrForm", Rows.laid_paddock_api_ErrForm)] [.sentinel, .sentinel] true :=
  Program.laidByTextLater.sub seatTie1 ["paddock/api.ErrRange", "paddock/api.ErrForm"] (by kernel_rfl) (by kernel_rfl)
theorem planeTurned_row_tie : Rows.planeTurnedRow.laidByTextAt .later Tryd.pinned [.sentinel, .sentinel] true :=
  OpenClaim.laidByTextAt_later rfl rfl tie2 noOwnUnsafe
theorem tie3 : Tryd.prog.laidByTextLater [("paddock/api.ErrRange", Rows.laid_paddock_api_ErrRange), ("paddock/api.ErrNone", Rows.laid_paddock_api_ErrNone), ("paddock/api.ErrForm", Rows.laid_paddock_api_ErrForm)] [.sentinel, .sentinel, .sentinel] true :=
  Program.laidByTextLater.sub seatTie1 ["paddock/api.ErrRange", "paddock/api.ErrNone", "paddock/api.ErrForm"] (by kernel_rfl) (by kernel_rfl)
theorem planeWithin_row_tie : Rows.planeWithinRow.laidByTextAt .later Tryd.pinned [.sentinel, .sentinel, .sentinel] true :=
  OpenClaim.laidByTextAt_later rfl rfl tie3 noOwnUnsafe
theorem tie4 : Tryd.prog.laidByTextLater [("paddock/api.ErrRange", Rows.laid_paddock_api_ErrRange), ("paddock/api.ErrFull", Rows.laid_paddock_api_ErrFull), ("paddock/api.ErrNone", Rows.laid_paddock_api_ErrNone), ("paddock/api.ErrExists", Rows.laid_paddock_api_ErrExists), ("paddock/api.ErrKind", Rows.laid_paddock_api_ErrKind), ("paddock/api.ErrState", Rows.laid_paddock_api_ErrState), ("paddock/api.ErrForm", Rows.laid_paddock_api_ErrForm), ("paddock/api.ErrBlocked", Rows.laid_paddock_api_ErrBlocked), ("paddock/api.ErrPath", Rows.laid_paddock_api_ErrPath), ("paddock/api.ErrGoal", Rows.laid_paddock_api_ErrGoal)] [.sentinel, .sentinel, .sentinel, .sentinel, .sentinel, .sentinel, .sentinel, .sentinel, .sentinel, .sentinel] true :=
  Program.laidByTextLater.sub seatTie1 ["paddock/api.ErrRange", "paddock/api.ErrFull", "paddock/api.ErrNone", "paddock/api.ErrExists", "paddock/api.ErrKind", "paddock/api.ErrState", "paddock/api.ErrForm", "paddock/api.ErrBlocked", "paddock/api.ErrPath", "paddock/api.ErrGoal"] (by kernel_rfl) (by kernel_rfl)
theorem planeOf_row_tie : Rows.planeOfRow.laidByTextAt .later Tryd.pinned [.sentinel, .sentinel, .sentinel, .sentinel, .sentinel, .sentinel, .sentinel, .sentinel, .sentinel, .sentinel] true :=
  OpenClaim.laidByTextAt_later rfl rfl tie4 noOwnUnsafe
theorem planeCentre_row_tie : Rows.planeCentreRow.laidByTextAt .later Tryd.pinned [.sentinel, .sentinel, .sentinel, .sentinel, .sentinel, .sentinel, .sentinel, .sentinel, .sentinel, .sentinel] true :=
  OpenClaim.laidByTextAt_later rfl rfl tie4 noOwnUnsafe
theorem planeDist_row_tie : Rows.planeDistRow.laidByTextAt .later Tryd.pinned [.sentinel, .sentinel, .sentinel, .sentinel, .sentinel, .sentinel, .sentinel, .sentinel, .sentinel, .sentinel] true :=
  OpenClaim.laidByTextAt_later rfl rfl tie4 noOwnUnsafe
theorem planeGap_row_tie : Rows.planeGapRow.laidByTextAt .later Tryd.pinned [.sentinel, .sentinel, .sentinel, .sentinel, .sentinel, .sentinel, .sentinel, .sentinel, .sentinel, .sentinel] true :=
  OpenClaim.laidByTextAt_later rfl rfl tie4 noOwnUnsafe
theorem planeJoin_row_tie : Rows.planeJoinRow.laidByTextAt .later Tryd.pinned [.sentinel, .sentinel, .sentinel, .sentinel, .sentinel, .sentinel, .sentinel, .sentinel, .sentinel, .sentinel] true :=
  OpenClaim.laidByTextAt_later rfl rfl tie4 noOwnUnsafe
theorem planeRightUpto_row_tie : Rows.planeRightUptoRow.laidByTextAt .later Tryd.pinned [.sentinel] true :=
  OpenClaim.laidByTextAt_later rfl rfl tie noOwnUnsafe
theorem planeHasUpto_row_tie : Rows.planeHasUptoRow.laidByTextAt .later Tryd.pinned [.sentinel] true :=
  OpenClaim.laidByTextAt_later rfl rfl tie noOwnUnsafe
theorem planeMeetsUpto_row_tie : Rows.planeMeetsUptoRow.laidByTextAt .later Tryd.pinned [.sentinel] true :=
  OpenClaim.laidByTextAt_later rfl rfl tie noOwnUnsafe
theorem planeShiftUpto_row_tie : Rows.planeShiftUptoRow.laidByTextAt .later Tryd.pinned [.sentinel] true :=
  OpenClaim.laidByTextAt_later rfl rfl tie noOwnUnsafe
theorem planeTurnedUpto_row_tie : Rows.planeTurnedUptoRow.laidByTextAt .later Tryd.pinned [.sentinel, .sentinel] true :=
  OpenClaim.laidByTextAt_later rfl rfl tie2 noOwnUnsafe
theorem planeWithinUpto_row_tie : Rows.planeWithinUptoRow.laidByTextAt .later Tryd.pinned [.sentinel, .sentinel, .sentinel] true :=
  OpenClaim.laidByTextAt_later rfl rfl tie3 noOwnUnsafe
theorem planeOfUpto_row_tie : Rows.planeOfUptoRow.laidByTextAt .later Tryd.pinned [.sentinel, .sentinel, .sentinel, .sentinel, .sentinel, .sentinel, .sentinel, .sentinel, .sentinel, .sentinel] true :=
  OpenClaim.laidByTextAt_later rfl rfl tie4 noOwnUnsafe
theorem planeCentreUpto_row_tie : Rows.planeCentreUptoRow.laidByTextAt .later Tryd.pinned [.sentinel, .sentinel, .sentinel, .sentinel, .sentinel, .sentinel, .sentinel, .sentinel, .sentinel, .sentinel] true :=
  OpenClaim.laidByTextAt_later rfl rfl tie4 noOwnUnsafe
theorem planeDistUpto_row_tie : Rows.planeDistUptoRow.laidByTextAt .later Tryd.pinned [.sentinel, .sentinel, .sentinel, .sentinel, .sentinel, .sentinel, .sentinel, .sentinel, .sentinel, .sentinel] true :=
  OpenClaim.laidByTextAt_later rfl rfl tie4 noOwnUnsafe
theorem planeGapUpto_row_tie : Rows.planeGapUptoRow.laidByTextAt .later Tryd.pinned [.sentinel, .sentinel, .sentinel, .sentinel, .sentinel, .sentinel, .sentinel, .sentinel, .sentinel, .sentinel] true :=
  OpenClaim.laidByTextAt_later rfl rfl tie4 noOwnUnsafe
theorem planeJoinUpto_row_tie : Rows.planeJoinUptoRow.laidByTextAt .later Tryd.pinned [.sentinel, .sentinel, .sentinel, .sentinel, .sentinel, .sentinel, .sentinel, .sentinel, .sentinel, .sentinel] true :=
  OpenClaim.laidByTextAt_later rfl rfl tie4 noOwnUnsafe
end Go.Proofs.YtlaiikahgioonaaDoor

/-
  DERIVED. GIVEN WITH THE SEED: THE CARDS: each row of YtmndeoncbocplaaDoorRows.lean that lists a variable, with what it lists TIED to the program's text (the seventh form; the later family's looks); each row that meets fmt, with fmt's text TOLD by the authors' own Lean function (tested against real Go, not proved from fmt's source: count such statements apart). THE CARD IS WHAT COUNTS. Prove the row's statement (the work); the ties are given (YtmndeoncbocplaaDoorTie.lean); close each card by the builder's one call (the guide's Derived/Test/ToyasCard.lean, 'card_holds'). Laid BY PROGRAM, IN A SANDBOX (cutbox-door.mjs). By AI agents, Wed Nov 11 2026. No macro, syntax, notation, axiom, sorry.
-/
import Derived.Test.YtmndeoncbocplaaDoorRows
import GoSem.ClaimSeven
namespace Go.Proofs.YtmndeoncbocplaaDoor
namespace Rows

/-- THE TIED CARD OF 'donjonlaw7.PathChecks'. -/
def pathChecksCard : Claim7 := { stood := { row := pathChecksRow, standIns := [], harness := (true, "a8970ecdc7201f489c42df806699d7644a8ccb5db10684bd7222e538645c0584"), looks := false }, kinds := [], alts := [], laidByText := true, laidKinds := [.data, .pinned], laidTests := true, laidLooks := .later }
def PathChecksCardSaid : Prop := Claim7.holds Tryd.pinned (.plain (OpenSpec.ofChange pathChecksSpec)) pathChecksCard

/-- THE TIED CARD OF 'donjonlaw7.PathIn'. -/
def pathInCard : Claim7 := { stood := { row := pathInRow, standIns := [], harness := (true, "a8970ecdc7201f489c42df806699d7644a8ccb5db10684bd7222e538645c0584"), looks := false }, kinds := [], alts := [], laidByText := true, laidKinds := [.data, .pinned], laidTests := true, laidLooks := .later }
def PathInCardSaid : Prop := Claim7.holds Tryd.pinned (.plain (OpenSpec.ofChange pathInSpec)) pathInCard

/-- THE TIED CARD OF 'donjonlaw7.PathTurns'. -/
def pathTurnsCard : Claim7 := { stood := { row := pathTurnsRow, standIns := [], harness := (true, "a8970ecdc7201f489c42df806699d7644a8ccb5db10684bd7222e538645c0584"), looks := false }, kinds := [], alts := [], laidByText := true, laidKinds := [.data, .pinned], laidTests := true, laidLooks := .later }
def PathTurnsCardSaid : Prop := Claim7.holds Tryd.pinned (.plain (OpenSpec.ofChange pathTurnsSpec)) pathTurnsCard

/-- THE TIED CARD OF 'donjonlaw7.PathDepth'. -/
def pathDepthCard : Claim7 := { stood := { row := pathDepthRow, standIns := [], harness := (true, "a8970ecdc7201f489c42df806699d7644a8ccb5db10684bd7222e538645c0584"), looks := false }, kinds := [], alts := [], laidByText := true, laidKinds := [.data, .pinned], laidTests := true, laidLooks := .later }
def PathDepthCardSaid : Prop := Claim7.holds Tryd.pinned (.plain (OpenSpec.ofChange pathDepthSpec)) pathDepthCard

/-- THE TIED CARD OF 'donjonlaw13.MonitorSecure'. -/
def monitorSecureCard : Claim7 := { stood := { row := monitorSecureRow, standIns := [], harness := (true, "a8970ecdc7201f489c42df806699d7644a8ccb5db10684bd7222e538645c0584"), looks := false }, kinds := [], alts := [], laidByText := true, laidKinds := [.data, .pinned], laidTests := true, laidLooks := .later }
def MonitorSecureCardSaid : Prop := Claim7.holds Tryd.pinned (.plain (OpenSpec.ofChange monitorSecureSpec)) monitorSecureCard

/-- THE TIED CARD OF 'donjonlaw13.MonitorMore'. -/
def monitorMoreCard : Claim7 := { stood := { row := monitorMoreRow, standIns := [], harness := (true, "a8970ecdc7201f489c42df806699d7644a8ccb5db10684bd7222e538645c0584"), looks := false }, kinds := [], alts := [], laidByText := true, laidKinds := [.data, .pinned], laidTests := true, laidLooks := .later }
def MonitorMoreCardSaid : Prop := Claim7.holds Tryd.pinned (.plain (OpenSpec.ofChange monitorMoreSpec)) monitorMoreCard

/-- THE TIED CARD OF 'donjonlaw13.MonitorHigher'. -/
def monitorHigherCard : Claim7 := { stood := { row := monitorHigherRow, standIns := [], harness := (true, "a8970ecdc7201f489c42df806699d7644a8ccb5db10684bd7222e538645c0584"), looks := false }, kinds := [], alts := [], laidByText := true, laidKinds := [.data, .pinned], laidTests := true, laidLooks := .later }
def MonitorHigherCardSaid : Prop := Claim7.holds Tryd.pinned (.plain (OpenSpec.ofChange monitorHigherSpec)) monitorHigherCard

/-- THE TIED CARD OF 'donjonlaw13.MonitorUsers'. -/
def monitorUsersCard : Claim7 := { stood := { row := monitorUsersRow, standIns := [], harness := (true, "a8970ecdc7201f489c42df806699d7644a8ccb5db10684bd7222e538645c0584"), looks := false }, kinds := [], alts := [], laidByText := true, laidKinds := [.data, .pinned], laidTests := true, laidLooks := .later }
def MonitorUsersCardSaid : Prop := Claim7.holds Tryd.pinned (.plain (OpenSpec.ofChange monitorUsersSpec)) monitorUsersCard

/-- THE TIED CARD OF 'donjonlaw13.MonitorModes'. -/
def monitorModesCard : Claim7 := { stood := { row := monitorModesRow, standIns := [], harness := (true, "a8970ecdc7201f489c42df806699d7644a8ccb5db10684bd7222e538645c0584"), looks := false }, kinds := [], alts := [], laidByText := true, laidKinds := [.data, .pinned], laidTests := true, laidLooks := .later }
def MonitorModesCardSaid : Prop := Claim7.holds Tryd.pinned (.plain (OpenSpec.ofChange monitorModesSpec)) monitorModesCard

/-- THE TIED CARD OF 'donjonlaw13.MonitorAsks'. -/
def monitorAsksCard : Claim7 := { stood := { row := monitorAsksRow, standIns := [], harness := (true, "a8970ecdc7201f489c42df806699d7644a8ccb5db10684bd7222e538645c0584"), looks := false }, kinds := [], alts := [], laidByText := true, laidKinds := [.data, .pinned], laidTests := true, laidLooks := .later }
def MonitorAsksCardSaid : Prop := Claim7.holds Tryd.pinned (.plain (OpenSpec.ofChange monitorAsksSpec)) monitorAsksCard

/-- THE TIED CARD OF 'donjonlaw13.MonitorBlind'. -/
def monitorBlindCard : Claim7 := { stood := { row := monitorBlindRow, standIns := [], harness := (true, "a8970ecdc7201f489c42df806699d7644a8ccb5db10684bd7222e538645c0584"), looks := false }, kinds := [], alts := [], laidByText := true, laidKinds := [.data, .pinned], laidTests := true, laidLooks := .later }
def MonitorBlindCardSaid : Prop := Claim7.holds Tryd.pinned (.plain (OpenSpec.ofChange monitorBlindSpec)) monitorBlindCard

/-- THE TIED CARD OF 'donjonlaw13.MonitorChanges'. -/
def monitorChangesCard : Claim7 := { stood := { row := monitorChangesRow, standIns := [], harness := (true, "a8970ecdc7201f489c42df806699d7644a8ccb5db10684bd7222e538645c0584"), looks := false }, kinds := [], alts := [], laidByText := true, laidKinds := [.data, .pinned], laidTests := true, laidLooks := .later }
def MonitorChangesCardSaid : Prop := Claim7.holds Tryd.pinned (.plain (OpenSpec.ofChange monitorChangesSpec)) monitorChangesCard

/-- THE TIED CARD OF 'donjonlaw11.TreeChecks'. -/
def treeChecksCard : Claim7 := { stood := { row := treeChecksRow, standIns := [], harness := (true, "a8970ecdc7201f489c42df806699d7644a8ccb5db10684bd7222e538645c0584"), looks := false }, kinds := [], alts := [], laidByText := true, laidKinds := [.data, .data, .data, .data, .pinned], laidTests := true, laidLooks := .later }
def TreeChecksCardSaid : Prop := Claim7.holds Tryd.pinned (.plain (OpenSpec.ofChange treeChecksSpec)) treeChecksCard

/-- THE TIED CARD OF 'donjonlaw11.TreeUnders'. -/
def treeUndersCard : Claim7 := { stood := { row := treeUndersRow, standIns := [], harness := (true, "a8970ecdc7201f489c42df806699d7644a8ccb5db10684bd7222e538645c0584"), looks := false }, kinds := [], alts := [], laidByText := true, laidKinds := [.data, .data, .data], laidTests := true, laidLooks := .later }
def TreeUndersCardSaid : Prop := Claim7.holds Tryd.pinned (.plain (OpenSpec.ofChange treeUndersSpec)) treeUndersCard

/-- THE TIED CARD OF 'donjonlaw11.TreeRises'. -/
def treeRisesCard : Claim7 := { stood := { row := treeRisesRow, standIns := [], harness := (true, "a8970ecdc7201f489c42df806699d7644a8ccb5db10684bd7222e538645c0584"), looks := false }, kinds := [], alts := [], laidByText := true, laidKinds := [.data, .data, .data, .data, .pinned], laidTests := true, laidLooks := .later }
def TreeRisesCardSaid : Prop := Claim7.holds Tryd.pinned (.plain (OpenSpec.ofChange treeRisesSpec)) treeRisesCard

/-- THE TIED CARD OF 'donjonlaw11.TreeLabels'. -/
def treeLabelsCard : Claim7 := { stood := { row := treeLabelsRow, standIns := [], harness := (true, "a8970ecdc7201f489c42df806699d7644a8ccb5db10684bd7222e538645c0584"), looks := false }, kinds := [], alts := [], laidByText := true, laidKinds := [.data, .data, .data, .data, .pinned], laidTests := true, laidLooks := .later }
def TreeLabelsCardSaid : Prop := Claim7.holds Tryd.pinned (.plain (OpenSpec.ofChange treeLabelsSpec)) treeLabelsCard

/-- THE TIED CARD OF 'donjonlaw11.TreePlays'. -/
def treePlaysCard : Claim7 := { stood := { row := treePlaysRow, standIns := [], harness := (true, "a8970ecdc7201f489c42df806699d7644a8ccb5db10684bd7222e538645c0584"), looks := false }, kinds := [], alts := [], laidByText := true, laidKinds := [.data, .data, .data], laidTests := true, laidLooks := .later }
def TreePlaysCardSaid : Prop := Claim7.holds Tryd.pinned (.plain (OpenSpec.ofChange treePlaysSpec)) treePlaysCard

/-- THE SECOND FORM's CARD OF 'donjonlaw7.PathChecks'. -/
def pathChecksUptoCard : Claim7 := { stood := { row := pathChecksUptoRow, standIns := [], harness := (true, "a8970ecdc7201f489c42df806699d7644a8ccb5db10684bd7222e538645c0584"), looks := false }, kinds := [], alts := [], laidByText := true, laidKinds := [.data, .pinned], laidTests := true, laidLooks := .later }
def PathChecksUptoCardSaid : Prop := Claim7.holds Tryd.pinned (.plain (OpenSpec.upto pathChecksSpec)) pathChecksUptoCard

/-- THE SECOND FORM's CARD OF 'donjonlaw7.PathIn'. -/
def pathInUptoCard : Claim7 := { stood := { row := pathInUptoRow, standIns := [], harness := (true, "a8970ecdc7201f489c42df806699d7644a8ccb5db10684bd7222e538645c0584"), looks := false }, kinds := [], alts := [], laidByText := true, laidKinds := [.data, .pinned], laidTests := true, laidLooks := .later }
def PathInUptoCardSaid : Prop := Claim7.holds Tryd.pinned (.plain (OpenSpec.upto pathInSpec)) pathInUptoCard

/-- THE SECOND FORM's CARD OF 'donjonlaw7.PathTurns'. -/
def pathTurnsUptoCard : Claim7 := { stood := { row := pathTurnsUptoRow, standIns := [], harness := (true, "a8970ecdc7201f489c42df806699d7644a8ccb5db10684bd7222e538645c0584"), looks := false }, kinds := [], alts := [], laidByText := true, laidKinds := [.data, .pinned], laidTests := true, laidLooks := .later }
def PathTurnsUptoCardSaid : Prop := Claim7.holds Tryd.pinned (.plain (OpenSpec.upto pathTurnsSpec)) pathTurnsUptoCard

/-- THE SECOND FORM's CARD OF 'donjonlaw7.PathDepth'. -/
def pathDepthUptoCard : Claim7 := { stood := { row := pathDepthUptoRow, standIns := [], harness := (true, "a8970ecdc7201f489c42df806699d7644a8ccb5db10684bd7222e538645c0584"), looks := false }, kinds := [], alts := [], laidByText := true, laidKinds := [.data, .pinned], laidTests := true, laidLooks := .later }
def PathDepthUptoCardSaid : Prop := Claim7.holds Tryd.pinned (.plain (OpenSpec.upto pathDepthSpec)) pathDepthUptoCard

/-- THE SECOND FORM's CARD OF 'donjonlaw13.MonitorSecure'. -/
def monitorSecureUptoCard : Claim7 := { stood := { row := monitorSecureUptoRow, standIns := [], harness := (true, "a8970ecdc7201f489c42df806699d7644a8ccb5db10684bd7222e538645c0584"), looks := false }, kinds := [], alts := [], laidByText := true, laidKinds := [.data, .pinned], laidTests := true, laidLooks := .later }
def MonitorSecureUptoCardSaid : Prop := Claim7.holds Tryd.pinned (.plain (OpenSpec.upto monitorSecureSpec)) monitorSecureUptoCard

/-- THE SECOND FORM's CARD OF 'donjonlaw13.MonitorMore'. -/
def monitorMoreUptoCard : Claim7 := { stood := { row := monitorMoreUptoRow, standIns := [], harness := (true, "a8970ecdc7201f489c42df806699d7644a8ccb5db10684bd7222e538645c0584"), looks := false }, kinds := [], alts := [], laidByText := true, laidKinds := [.data, .pinned], laidTests := true, laidLooks := .later }
def MonitorMoreUptoCardSaid : Prop := Claim7.holds Tryd.pinned (.plain (OpenSpec.upto monitorMoreSpec)) monitorMoreUptoCard

/-- THE SECOND FORM's CARD OF 'donjonlaw13.MonitorHigher'. -/
def monitorHigherUptoCard : Claim7 := { stood := { row := monitorHigherUptoRow, standIns := [], harness := (true, "a8970ecdc7201f489c42df806699d7644a8ccb5db10684bd7222e538645c0584"), looks := false }, kinds := [], alts := [], laidByText := true, laidKinds := [.data, .pinned], laidTests := true, laidLooks := .later }
def MonitorHigherUptoCardSaid : Prop := Claim7.holds Tryd.pinned (.plain (OpenSpec.upto monitorHigherSpec)) monitorHigherUptoCard

/-- THE SECOND FORM's CARD OF 'donjonlaw13.MonitorUsers'. -/
def monitorUsersUptoCard : Claim7 := { stood := { row := monitorUsersUptoRow, standIns := [], harness := (true, "a8970ecdc7201f489c42df806699d7644a8ccb5db10684bd7222e538645c0584"), looks := false }, kinds := [], alts := [], laidByText := true, laidKinds := [.data, .pinned], laidTests := true, laidLooks := .later }
def MonitorUsersUptoCardSaid : Prop := Claim7.holds Tryd.pinned (.plain (OpenSpec.upto monitorUsersSpec)) monitorUsersUptoCard

/-- THE SECOND FORM's CARD OF 'donjonlaw13.MonitorModes'. -/
def monitorModesUptoCard : Claim7 := { stood := { row := monitorModesUptoRow, standIns := [], harness := (true, "a8970ecdc7201f489c42df806699d7644a8ccb5db10684bd7222e538645c0584"), looks := false }, kinds := [], alts := [], laidByText := true, laidKinds := [.data, .pinned], laidTests := true, laidLooks := .later }
def MonitorModesUptoCardSaid : Prop := Claim7.holds Tryd.pinned (.plain (OpenSpec.upto monitorModesSpec)) monitorModesUptoCard

/-- THE SECOND FORM's CARD OF 'donjonlaw13.MonitorAsks'. -/
def monitorAsksUptoCard : Claim7 := { stood := { row := monitorAsksUptoRow, standIns := [], harness := (true, "a8970ecdc7201f489c42df806699d7644a8ccb5db10684bd7222e538645c0584"), looks := false }, kinds := [], alts := [], laidByText := true, laidKinds := [.data, .pinned], laidTests := true, laidLooks := .later }
def MonitorAsksUptoCardSaid : Prop := Claim7.holds Tryd.pinned (.plain (OpenSpec.upto monitorAsksSpec)) monitorAsksUptoCard

/-- THE SECOND FORM's CARD OF 'donjonlaw13.MonitorBlind'. -/
def monitorBlindUptoCard : Claim7 := { stood := { row := monitorBlindUptoRow, standIns := [], harness := (true, "a8970ecdc7201f489c42df806699d7644a8ccb5db10684bd7222e538645c0584"), looks := false }, kinds := [], alts := [], laidByText := true, laidKinds := [.data, .pinned], laidTests := true, laidLooks := .later }
def MonitorBlindUptoCardSaid : Prop := Claim7.holds Tryd.pinned (.plain (OpenSpec.upto monitorBlindSpec)) monitorBlindUptoCard

/-- THE SECOND FORM's CARD OF 'donjonlaw13.MonitorChanges'. -/
def monitorChangesUptoCard : Claim7 := { stood := { row := monitorChangesUptoRow, standIns := [], harness := (true, "a8970ecdc7201f489c42df806699d7644a8ccb5db10684bd7222e538645c0584"), looks := false }, kinds := [], alts := [], laidByText := true, laidKinds := [.data, .pinned], laidTests := true, laidLooks := .later }
def MonitorChangesUptoCardSaid : Prop := Claim7.holds Tryd.pinned (.plain (OpenSpec.upto monitorChangesSpec)) monitorChangesUptoCard

/-- THE SECOND FORM's CARD OF 'donjonlaw11.TreeChecks'. -/
def treeChecksUptoCard : Claim7 := { stood := { row := treeChecksUptoRow, standIns := [], harness := (true, "a8970ecdc7201f489c42df806699d7644a8ccb5db10684bd7222e538645c0584"), looks := false }, kinds := [], alts := [], laidByText := true, laidKinds := [.data, .data, .data, .data, .pinned], laidTests := true, laidLooks := .later }
def TreeChecksUptoCardSaid : Prop := Claim7.holds Tryd.pinned (.plain (OpenSpec.upto treeChecksSpec)) treeChecksUptoCard

/-- THE SECOND FORM's CARD OF 'donjonlaw11.TreeUnders'. -/
def treeUndersUptoCard : Claim7 := { stood := { row := treeUndersUptoRow, standIns := [], harness := (true, "a8970ecdc7201f489c42df806699d7644a8ccb5db10684bd7222e538645c0584"), looks := false }, kinds := [], alts := [], laidByText := true, laidKinds := [.data, .data, .data], laidTests := true, laidLooks := .later }
def TreeUndersUptoCardSaid : Prop := Claim7.holds Tryd.pinned (.plain (OpenSpec.upto treeUndersSpec)) treeUndersUptoCard

/-- THE SECOND FORM's CARD OF 'donjonlaw11.TreeRises'. -/
def treeRisesUptoCard : Claim7 := { stood := { row := treeRisesUptoRow, standIns := [], harness := (true, "a8970ecdc7201f489c42df806699d7644a8ccb5db10684bd7222e538645c0584"), looks := false }, kinds := [], alts := [], laidByText := true, laidKinds := [.data, .data, .data, .data, .pinned], laidTests := true, laidLooks := .later }
def TreeRisesUptoCardSaid : Prop := Claim7.holds Tryd.pinned (.plain (OpenSpec.upto treeRisesSpec)) treeRisesUptoCard

/-- THE SECOND FORM's CARD OF 'donjonlaw11.TreeLabels'. -/
def treeLabelsUptoCard : Claim7 := { stood := { row := treeLabelsUptoRow, standIns := [], harness := (true, "a8970ecdc7201f489c42df806699d7644a8ccb5db10684bd7222e538645c0584"), looks := false }, kinds := [], alts := [], laidByText := true, laidKinds := [.data, .data, .data, .data, .pinned], laidTests := true, laidLooks := .later }
def TreeLabelsUptoCardSaid : Prop := Claim7.holds Tryd.pinned (.plain (OpenSpec.upto treeLabelsSpec)) treeLabelsUptoCard

/-- THE SECOND FORM's CARD OF 'donjonlaw11.TreePlays'. -/
def treePlaysUptoCard : Claim7 := { stood := { row := treePlaysUptoRow, standIns := [], harness := (true, "a8970ecdc7201f489c42df806699d7644a8ccb5db10684bd7222e538645c0584"), looks := false }, kinds := [], alts := [], laidByText := true, laidKinds := [.data, .data, .data], laidTests := true, laidLooks := .later }
def TreePlaysUptoCardSaid : Prop := Claim7.holds Tryd.pinned (.plain (OpenSpec.upto treePlaysSpec)) treePlaysUptoCard
end Rows
end Go.Proofs.YtmndeoncbocplaaDoor

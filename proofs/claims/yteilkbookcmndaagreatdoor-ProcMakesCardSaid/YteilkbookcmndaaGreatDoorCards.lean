/-
  DERIVED. GIVEN WITH THE SEED: THE CARDS: each row of YteilkbookcmndaaGreatDoorRows.lean that lists a variable, with what it lists TIED to the program's text (the seventh form; the later family's looks); each row that meets fmt, with fmt's text TOLD by the authors' own Lean function (tested against real Go, not proved from fmt's source: count such statements apart). THE CARD IS WHAT COUNTS. Prove the row's statement (the work); the ties are given (YteilkbookcmndaaGreatDoorTie.lean); close each card by the builder's one call (the guide's Derived/Test/ToyasCard.lean, 'card_holds'). Laid BY PROGRAM, IN A SANDBOX (cutbox-door.mjs). By AI agents, Wed Nov 11 2026. No macro, syntax, notation, axiom, sorry.
-/
import Derived.Test.YteilkbookcmndaaGreatDoorRows
import GoSem.ClaimSeven
namespace Go.Proofs.YteilkbookcmndaaGreatDoor
namespace Rows

/-- THE TIED CARD OF 'donjonlaw17.ProcMakes'. -/
def procMakesCard : Claim7 := { stood := { row := procMakesRow, standIns := [], harness := (true, "975bcb0c8083765df8274ad47458fa84a8c2a30044e216d578f0df9289473058"), looks := true }, kinds := [], alts := [], laidByText := true, laidKinds := [.data, .pinned], laidTests := true, laidLooks := .later }
def ProcMakesCardSaid : Prop := Claim7.holds Tryz.pinned (.plain (OpenSpec.ofChange procMakesSpec)) procMakesCard

/-- THE TIED CARD OF 'donjonlaw17.ProcConfined'. -/
def procConfinedCard : Claim7 := { stood := { row := procConfinedRow, standIns := [], harness := (true, "975bcb0c8083765df8274ad47458fa84a8c2a30044e216d578f0df9289473058"), looks := true }, kinds := [], alts := [], laidByText := true, laidKinds := [.data, .pinned], laidTests := true, laidLooks := .later }
def ProcConfinedCardSaid : Prop := Claim7.holds Tryz.pinned (.plain (OpenSpec.ofChange procConfinedSpec)) procConfinedCard

/-- THE TIED CARD OF 'donjonlaw17.ProcSplits'. -/
def procSplitsCard : Claim7 := { stood := { row := procSplitsRow, standIns := [], harness := (true, "975bcb0c8083765df8274ad47458fa84a8c2a30044e216d578f0df9289473058"), looks := true }, kinds := [], alts := [], laidByText := true, laidKinds := [.data, .pinned], laidTests := true, laidLooks := .later }
def ProcSplitsCardSaid : Prop := Claim7.holds Tryz.pinned (.plain (OpenSpec.ofChange procSplitsSpec)) procSplitsCard

/-- THE TIED CARD OF 'donjonlaw17.ProcLimits'. -/
def procLimitsCard : Claim7 := { stood := { row := procLimitsRow, standIns := [], harness := (true, "975bcb0c8083765df8274ad47458fa84a8c2a30044e216d578f0df9289473058"), looks := true }, kinds := [], alts := [], laidByText := true, laidKinds := [.data, .pinned], laidTests := true, laidLooks := .later }
def ProcLimitsCardSaid : Prop := Claim7.holds Tryz.pinned (.plain (OpenSpec.ofChange procLimitsSpec)) procLimitsCard

/-- THE TIED CARD OF 'donjonlaw17.ProcMoves'. -/
def procMovesCard : Claim7 := { stood := { row := procMovesRow, standIns := [], harness := (true, "975bcb0c8083765df8274ad47458fa84a8c2a30044e216d578f0df9289473058"), looks := true }, kinds := [], alts := [], laidByText := true, laidKinds := [.data, .pinned], laidTests := true, laidLooks := .later }
def ProcMovesCardSaid : Prop := Claim7.holds Tryz.pinned (.plain (OpenSpec.ofChange procMovesSpec)) procMovesCard

/-- THE TIED CARD OF 'donjonlaw17.ProcGone'. -/
def procGoneCard : Claim7 := { stood := { row := procGoneRow, standIns := [], harness := (true, "975bcb0c8083765df8274ad47458fa84a8c2a30044e216d578f0df9289473058"), looks := true }, kinds := [], alts := [], laidByText := true, laidKinds := [.data, .pinned], laidTests := true, laidLooks := .later }
def ProcGoneCardSaid : Prop := Claim7.holds Tryz.pinned (.plain (OpenSpec.ofChange procGoneSpec)) procGoneCard

/-- THE SECOND FORM's CARD OF 'donjonlaw17.ProcMakes'. -/
def procMakesUptoCard : Claim7 := { stood := { row := procMakesUptoRow, standIns := [], harness := (true, "975bcb0c8083765df8274ad47458fa84a8c2a30044e216d578f0df9289473058"), looks := true }, kinds := [], alts := [], laidByText := true, laidKinds := [.data, .pinned], laidTests := true, laidLooks := .later }
def ProcMakesUptoCardSaid : Prop := Claim7.holds Tryz.pinned (.plain (OpenSpec.upto procMakesSpec)) procMakesUptoCard

/-- THE SECOND FORM's CARD OF 'donjonlaw17.ProcConfined'. -/
def procConfinedUptoCard : Claim7 := { stood := { row := procConfinedUptoRow, standIns := [], harness := (true, "975bcb0c8083765df8274ad47458fa84a8c2a30044e216d578f0df9289473058"), looks := true }, kinds := [], alts := [], laidByText := true, laidKinds := [.data, .pinned], laidTests := true, laidLooks := .later }
def ProcConfinedUptoCardSaid : Prop := Claim7.holds Tryz.pinned (.plain (OpenSpec.upto procConfinedSpec)) procConfinedUptoCard

/-- THE SECOND FORM's CARD OF 'donjonlaw17.ProcSplits'. -/
def procSplitsUptoCard : Claim7 := { stood := { row := procSplitsUptoRow, standIns := [], harness := (true, "975bcb0c8083765df8274ad47458fa84a8c2a30044e216d578f0df9289473058"), looks := true }, kinds := [], alts := [], laidByText := true, laidKinds := [.data, .pinned], laidTests := true, laidLooks := .later }
def ProcSplitsUptoCardSaid : Prop := Claim7.holds Tryz.pinned (.plain (OpenSpec.upto procSplitsSpec)) procSplitsUptoCard

/-- THE SECOND FORM's CARD OF 'donjonlaw17.ProcLimits'. -/
def procLimitsUptoCard : Claim7 := { stood := { row := procLimitsUptoRow, standIns := [], harness := (true, "975bcb0c8083765df8274ad47458fa84a8c2a30044e216d578f0df9289473058"), looks := true }, kinds := [], alts := [], laidByText := true, laidKinds := [.data, .pinned], laidTests := true, laidLooks := .later }
def ProcLimitsUptoCardSaid : Prop := Claim7.holds Tryz.pinned (.plain (OpenSpec.upto procLimitsSpec)) procLimitsUptoCard

/-- THE SECOND FORM's CARD OF 'donjonlaw17.ProcMoves'. -/
def procMovesUptoCard : Claim7 := { stood := { row := procMovesUptoRow, standIns := [], harness := (true, "975bcb0c8083765df8274ad47458fa84a8c2a30044e216d578f0df9289473058"), looks := true }, kinds := [], alts := [], laidByText := true, laidKinds := [.data, .pinned], laidTests := true, laidLooks := .later }
def ProcMovesUptoCardSaid : Prop := Claim7.holds Tryz.pinned (.plain (OpenSpec.upto procMovesSpec)) procMovesUptoCard

/-- THE SECOND FORM's CARD OF 'donjonlaw17.ProcGone'. -/
def procGoneUptoCard : Claim7 := { stood := { row := procGoneUptoRow, standIns := [], harness := (true, "975bcb0c8083765df8274ad47458fa84a8c2a30044e216d578f0df9289473058"), looks := true }, kinds := [], alts := [], laidByText := true, laidKinds := [.data, .pinned], laidTests := true, laidLooks := .later }
def ProcGoneUptoCardSaid : Prop := Claim7.holds Tryz.pinned (.plain (OpenSpec.upto procGoneSpec)) procGoneUptoCard
end Rows
end Go.Proofs.YteilkbookcmndaaGreatDoor

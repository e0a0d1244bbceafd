/-
  NARROWER THAN 'FOR EVERY INPUT', by the rows' own cells (each row's printed sentence says how): ProcMakes: laid · ProcConfined: laid · ProcSplits: laid · ProcLimits: laid · ProcMoves: laid · ProcGone: laid.
  DERIVED. THE GIVEN ROWS OF THIS SEAT. 6 by the template 'for every input the law returns true; each argument reads behind the call as it read before'; 0 by the template 'total and deterministic' (their statements: YteilkbookcmndaaGreatDoorTotals.lean).
  GIVEN WITH THE SEED: the statements are not yours to turn. If you find one false, say at which input.
  Laid BY PROGRAM, IN A SANDBOX (cutbox-rows.mjs): the forced cells as the released guide's own fill.sh prints them over the translation 5ed85cd3be253b51… (all of the seat's roots in one cut). By AI agents, Wed Nov 11 2026. No macro, syntax, notation, axiom, sorry.
-/
import Derived.Test.YteilkbookcmndaaGreatDoorChecked
import GoSem.PinnedTables
import GoSem.Claim
import GoSem.ClaimJoined
import GoSem.ClaimMapViews
import Derived.JoinedTies
import Derived.KernelRfl
namespace Go.Proofs.YteilkbookcmndaaGreatDoor
/- THE CELL 'sum', in the pinned program and in every row, IS THE sha256 OF THE DUMP (.gsa) THAT YteilkbookcmndaaGreatDoorProg.lean LOADS. Nothing in Lean hashes anything: it is a label: what it is worth is what the hold of that sum in a sandbox is worth. -/
noncomputable def Tryz.pinned : Pinned := { name := "yteilkbookcmndaagreatdoor", sum := "5ed85cd3be253b51300bc7da316ba661df711b6cc3f7cbf90f5892e012173f54", checked := Tryz.checked }
namespace Rows
def none {H : Type} : Left H := { results := [], args := [] }

/- WHAT THE LISTED PACKAGE-LEVEL VARIABLES READ AS WHEN THE CALL BEGINS. Each datum BY PROGRAM (the guide's laid-datum.mjs) off the statement by which the dump's own 'gosem.cut.vars' lays the variable. In a bare row this is a premise. The card (YteilkbookcmndaaGreatDoorCards.lean) ties it to the program's text. -/
def laid_unicode_utf8_acceptRanges {H : Type} : DataW H := .agg [.agg [.lit (.int .u8 128), .lit (.int .u8 191)], .agg [.lit (.int .u8 160), .lit (.int .u8 191)], .agg [.lit (.int .u8 128), .lit (.int .u8 159)], .agg [.lit (.int .u8 144), .lit (.int .u8 191)], .agg [.lit (.int .u8 128), .lit (.int .u8 143)], .agg [.lit (.int .u8 0), .lit (.int .u8 0)], .agg [.lit (.int .u8 0), .lit (.int .u8 0)], .agg [.lit (.int .u8 0), .lit (.int .u8 0)], .agg [.lit (.int .u8 0), .lit (.int .u8 0)], .agg [.lit (.int .u8 0), .lit (.int .u8 0)], .agg [.lit (.int .u8 0), .lit (.int .u8 0)], .agg [.lit (.int .u8 0), .lit (.int .u8 0)], .agg [.lit (.int .u8 0), .lit (.int .u8 0)], .agg [.lit (.int .u8 0), .lit (.int .u8 0)], .agg [.lit (.int .u8 0), .lit (.int .u8 0)], .agg [.lit (.int .u8 0), .lit (.int .u8 0)]]
/-- One of Go's own tables, pinned by name: the form's constant. -/
def laid_unicode_utf8_first : DataW Unit := Go.Pinned.utf8First

/-- 'donjonlaw17.ProcMakes': WHATEVER THE INPUT: true; the input reads as it did. -/
def procMakesSpec : ChangeSpec := { name := "procMakes", fn := fun _ => fun
  | [d1, d2, d3, d4, d5, d6, d7, d8] => { results := [.lit (.bool true)], args := [d1, d2, d3, d4, d5, d6, d7, d8] }
  | _ => none }
def procMakesRow : OpenClaim := { program := "yteilkbookcmndaagreatdoor", sum := "5ed85cd3be253b51300bc7da316ba661df711b6cc3f7cbf90f5892e012173f54", func := "donjon/donjonlaw17.ProcMakes", spec := "procMakes", inPlace := ["internal/bytealg.CountString", "internal/bytealg.IndexByteString", "internal/bytealg.IndexString", "math.Float64bits", "math.Float64frombits"], unfollowed := true, recurses := true, named := ["unicode/utf8.first", "unicode/utf8.acceptRanges", "internal/bytealg.MaxLen"], apart := false, laid := [("unicode/utf8.acceptRanges", laid_unicode_utf8_acceptRanges), ("unicode/utf8.first", laid_unicode_utf8_first)] }
def ProcMakesSaid : Prop := procMakesRow.holds Tryz.pinned (OpenSpec.ofChange procMakesSpec)

/-- ITS FALSE NEIGHBOUR: 'it returns false'. Refute it at one input. -/
def procMakesWrong : ChangeSpec := { name := "procMakes", fn := fun _ => fun
  | [d1, d2, d3, d4, d5, d6, d7, d8] => { results := [.lit (.bool false)], args := [d1, d2, d3, d4, d5, d6, d7, d8] }
  | _ => none }
def ProcMakesWrongFalsely : Prop := procMakesRow.holds Tryz.pinned (OpenSpec.ofChange procMakesWrong)

/-- 'donjonlaw17.ProcConfined': WHATEVER THE INPUT: true; the input reads as it did. -/
def procConfinedSpec : ChangeSpec := { name := "procConfined", fn := fun _ => fun
  | [d1, d2, d3, d4, d5, d6, d7] => { results := [.lit (.bool true)], args := [d1, d2, d3, d4, d5, d6, d7] }
  | _ => none }
def procConfinedRow : OpenClaim := { program := "yteilkbookcmndaagreatdoor", sum := "5ed85cd3be253b51300bc7da316ba661df711b6cc3f7cbf90f5892e012173f54", func := "donjon/donjonlaw17.ProcConfined", spec := "procConfined", inPlace := ["internal/bytealg.CountString", "internal/bytealg.IndexByteString", "internal/bytealg.IndexString", "math.Float64bits", "math.Float64frombits"], unfollowed := true, recurses := true, named := ["unicode/utf8.first", "unicode/utf8.acceptRanges", "internal/bytealg.MaxLen"], apart := false, laid := [("unicode/utf8.acceptRanges", laid_unicode_utf8_acceptRanges), ("unicode/utf8.first", laid_unicode_utf8_first)] }
def ProcConfinedSaid : Prop := procConfinedRow.holds Tryz.pinned (OpenSpec.ofChange procConfinedSpec)

/-- ITS FALSE NEIGHBOUR: 'it returns false'. Refute it at one input. -/
def procConfinedWrong : ChangeSpec := { name := "procConfined", fn := fun _ => fun
  | [d1, d2, d3, d4, d5, d6, d7] => { results := [.lit (.bool false)], args := [d1, d2, d3, d4, d5, d6, d7] }
  | _ => none }
def ProcConfinedWrongFalsely : Prop := procConfinedRow.holds Tryz.pinned (OpenSpec.ofChange procConfinedWrong)

/-- 'donjonlaw17.ProcSplits': WHATEVER THE INPUT: true; the input reads as it did. -/
def procSplitsSpec : ChangeSpec := { name := "procSplits", fn := fun _ => fun
  | [d1, d2, d3, d4] => { results := [.lit (.bool true)], args := [d1, d2, d3, d4] }
  | _ => none }
def procSplitsRow : OpenClaim := { program := "yteilkbookcmndaagreatdoor", sum := "5ed85cd3be253b51300bc7da316ba661df711b6cc3f7cbf90f5892e012173f54", func := "donjon/donjonlaw17.ProcSplits", spec := "procSplits", inPlace := ["internal/bytealg.CountString", "internal/bytealg.IndexByteString", "internal/bytealg.IndexString", "math.Float64bits", "math.Float64frombits"], unfollowed := true, recurses := true, named := ["unicode/utf8.first", "unicode/utf8.acceptRanges", "internal/bytealg.MaxLen"], apart := false, laid := [("unicode/utf8.acceptRanges", laid_unicode_utf8_acceptRanges), ("unicode/utf8.first", laid_unicode_utf8_first)] }
def ProcSplitsSaid : Prop := procSplitsRow.holds Tryz.pinned (OpenSpec.ofChange procSplitsSpec)

/-- ITS FALSE NEIGHBOUR: 'it returns false'. Refute it at one input. -/
def procSplitsWrong : ChangeSpec := { name := "procSplits", fn := fun _ => fun
  | [d1, d2, d3, d4] => { results := [.lit (.bool false)], args := [d1, d2, d3, d4] }
  | _ => none }
def ProcSplitsWrongFalsely : Prop := procSplitsRow.holds Tryz.pinned (OpenSpec.ofChange procSplitsWrong)

/-- 'donjonlaw17.ProcLimits': WHATEVER THE INPUT: true; the input reads as it did. -/
def procLimitsSpec : ChangeSpec := { name := "procLimits", fn := fun _ => fun
  | [d1, d2] => { results := [.lit (.bool true)], args := [d1, d2] }
  | _ => none }
def procLimitsRow : OpenClaim := { program := "yteilkbookcmndaagreatdoor", sum := "5ed85cd3be253b51300bc7da316ba661df711b6cc3f7cbf90f5892e012173f54", func := "donjon/donjonlaw17.ProcLimits", spec := "procLimits", inPlace := ["internal/bytealg.CountString", "internal/bytealg.IndexByteString", "internal/bytealg.IndexString", "math.Float64bits", "math.Float64frombits"], unfollowed := true, recurses := true, named := ["unicode/utf8.first", "unicode/utf8.acceptRanges", "internal/bytealg.MaxLen"], apart := false, laid := [("unicode/utf8.acceptRanges", laid_unicode_utf8_acceptRanges), ("unicode/utf8.first", laid_unicode_utf8_first)] }
def ProcLimitsSaid : Prop := procLimitsRow.holds Tryz.pinned (OpenSpec.ofChange procLimitsSpec)

/-- ITS FALSE NEIGHBOUR: 'it returns false'. Refute it at one input. -/
def procLimitsWrong : ChangeSpec := { name := "procLimits", fn := fun _ => fun
  | [d1, d2] => { results := [.lit (.bool false)], args := [d1, d2] }
  | _ => none }
def ProcLimitsWrongFalsely : Prop := procLimitsRow.holds Tryz.pinned (OpenSpec.ofChange procLimitsWrong)

/-- 'donjonlaw17.ProcMoves': WHATEVER THE INPUT: true; the input reads as it did. -/
def procMovesSpec : ChangeSpec := { name := "procMoves", fn := fun _ => fun
  | [d1, d2, d3] => { results := [.lit (.bool true)], args := [d1, d2, d3] }
  | _ => none }
def procMovesRow : OpenClaim := { program := "yteilkbookcmndaagreatdoor", sum := "5ed85cd3be253b51300bc7da316ba661df711b6cc3f7cbf90f5892e012173f54", func := "donjon/donjonlaw17.ProcMoves", spec := "procMoves", inPlace := ["internal/bytealg.CountString", "internal/bytealg.IndexByteString", "internal/bytealg.IndexString", "math.Float64bits", "math.Float64frombits"], unfollowed := true, recurses := true, named := ["unicode/utf8.first", "unicode/utf8.acceptRanges", "internal/bytealg.MaxLen"], apart := false, laid := [("unicode/utf8.acceptRanges", laid_unicode_utf8_acceptRanges), ("unicode/utf8.first", laid_unicode_utf8_first)] }
def ProcMovesSaid : Prop := procMovesRow.holds Tryz.pinned (OpenSpec.ofChange procMovesSpec)

/-- ITS FALSE NEIGHBOUR: 'it returns false'. Refute it at one input. -/
def procMovesWrong : ChangeSpec := { name := "procMoves", fn := fun _ => fun
  | [d1, d2, d3] => { results := [.lit (.bool false)], args := [d1, d2, d3] }
  | _ => none }
def ProcMovesWrongFalsely : Prop := procMovesRow.holds Tryz.pinned (OpenSpec.ofChange procMovesWrong)

/-- 'donjonlaw17.ProcGone': WHATEVER THE INPUT: true; the input reads as it did. -/
def procGoneSpec : ChangeSpec := { name := "procGone", fn := fun _ => fun
  | [d1, d2, d3] => { results := [.lit (.bool true)], args := [d1, d2, d3] }
  | _ => none }
def procGoneRow : OpenClaim := { program := "yteilkbookcmndaagreatdoor", sum := "5ed85cd3be253b51300bc7da316ba661df711b6cc3f7cbf90f5892e012173f54", func := "donjon/donjonlaw17.ProcGone", spec := "procGone", inPlace := ["internal/bytealg.CountString", "internal/bytealg.IndexByteString", "internal/bytealg.IndexString", "math.Float64bits", "math.Float64frombits"], unfollowed := true, recurses := true, named := ["unicode/utf8.first", "unicode/utf8.acceptRanges", "internal/bytealg.MaxLen"], apart := false, laid := [("unicode/utf8.acceptRanges", laid_unicode_utf8_acceptRanges), ("unicode/utf8.first", laid_unicode_utf8_first)] }
def ProcGoneSaid : Prop := procGoneRow.holds Tryz.pinned (OpenSpec.ofChange procGoneSpec)

/-- ITS FALSE NEIGHBOUR: 'it returns false'. Refute it at one input. -/
def procGoneWrong : ChangeSpec := { name := "procGone", fn := fun _ => fun
  | [d1, d2, d3] => { results := [.lit (.bool false)], args := [d1, d2, d3] }
  | _ => none }
def ProcGoneWrongFalsely : Prop := procGoneRow.holds Tryz.pinned (OpenSpec.ofChange procGoneWrong)

/- THE SECOND FORM. 'bulk': how many values and letters a reading holds, each counted each time it is reached (what is shared counts as often as it is met; a slice's spare places count too). A statement '..UptoSaid' is the law's where the arguments, and the package variables that the reading takes, are together of bulk at most 1048576: NARROWER than '..Said'. Prove '..Said' where nothing that the law and all that it calls make is longer than what came in: it says more and counts as full. Else prove '..UptoSaid'. A law counts once. -/
mutual
def uptoBulk {H : Type} : DataW H → Nat
  | .lit (.string bytes) => bytes.length + 1
  | .lit _ => 1
  | .nil => 1
  | .ptr d => uptoBulk d + 1
  | .slice elems spare => uptoBulkAll elems + uptoBulkAll spare + 1
  | .agg parts => uptoBulkAll parts + 1
  | .iface _ d => uptoBulk d + 1
  | .map entries => uptoBulkEntries entries + 1
  | .held _ => 1
def uptoBulkAll {H : Type} : List (DataW H) → Nat
  | [] => 0
  | d :: r => uptoBulk d + uptoBulkAll r
def uptoBulkEntries {H : Type} : List (Lit × DataW H) → Nat
  | [] => 0
  | x :: r => uptoBulkEntry x + uptoBulkEntries r
def uptoBulkEntry {H : Type} : Lit × DataW H → Nat
  | (.string bytes, d) => bytes.length + uptoBulk d + 1
  | (_, d) => uptoBulk d + 1
 end
def uptoSmall : (H : Type) → List (DataW H) → Bool := fun _ ds => decide (uptoBulkAll ds ≤ 1048576)
def OpenSpec.upto (s : _root_.Go.ChangeSpec) : _root_.Go.OpenSpec := { _root_.Go.OpenSpec.ofChange s with cond := some uptoSmall }

/-- 'donjonlaw17.ProcMakes', WHERE WHAT IT READS IS OF BULK AT MOST 1048576: true; the input reads as it did. -/
def procMakesUptoRow : OpenClaim := { program := "yteilkbookcmndaagreatdoor", sum := "5ed85cd3be253b51300bc7da316ba661df711b6cc3f7cbf90f5892e012173f54", func := "donjon/donjonlaw17.ProcMakes", spec := "procMakes", inPlace := ["internal/bytealg.CountString", "internal/bytealg.IndexByteString", "internal/bytealg.IndexString", "math.Float64bits", "math.Float64frombits"], unfollowed := true, recurses := true, named := ["unicode/utf8.first", "unicode/utf8.acceptRanges", "internal/bytealg.MaxLen"], apart := false, laid := [("unicode/utf8.acceptRanges", laid_unicode_utf8_acceptRanges), ("unicode/utf8.first", laid_unicode_utf8_first)], narrowed := true }
def ProcMakesUptoSaid : Prop := procMakesUptoRow.holds Tryz.pinned (OpenSpec.upto procMakesSpec)

/-- 'donjonlaw17.ProcConfined', WHERE WHAT IT READS IS OF BULK AT MOST 1048576: true; the input reads as it did. -/
def procConfinedUptoRow : OpenClaim := { program := "yteilkbookcmndaagreatdoor", sum := "5ed85cd3be253b51300bc7da316ba661df711b6cc3f7cbf90f5892e012173f54", func := "donjon/donjonlaw17.ProcConfined", spec := "procConfined", inPlace := ["internal/bytealg.CountString", "internal/bytealg.IndexByteString", "internal/bytealg.IndexString", "math.Float64bits", "math.Float64frombits"], unfollowed := true, recurses := true, named := ["unicode/utf8.first", "unicode/utf8.acceptRanges", "internal/bytealg.MaxLen"], apart := false, laid := [("unicode/utf8.acceptRanges", laid_unicode_utf8_acceptRanges), ("unicode/utf8.first", laid_unicode_utf8_first)], narrowed := true }
def ProcConfinedUptoSaid : Prop := procConfinedUptoRow.holds Tryz.pinned (OpenSpec.upto procConfinedSpec)

/-- 'donjonlaw17.ProcSplits', WHERE WHAT IT READS IS OF BULK AT MOST 1048576: true; the input reads as it did. -/
def procSplitsUptoRow : OpenClaim := { program := "yteilkbookcmndaagreatdoor", sum := "5ed85cd3be253b51300bc7da316ba661df711b6cc3f7cbf90f5892e012173f54", func := "donjon/donjonlaw17.ProcSplits", spec := "procSplits", inPlace := ["internal/bytealg.CountString", "internal/bytealg.IndexByteString", "internal/bytealg.IndexString", "math.Float64bits", "math.Float64frombits"], unfollowed := true, recurses := true, named := ["unicode/utf8.first", "unicode/utf8.acceptRanges", "internal/bytealg.MaxLen"], apart := false, laid := [("unicode/utf8.acceptRanges", laid_unicode_utf8_acceptRanges), ("unicode/utf8.first", laid_unicode_utf8_first)], narrowed := true }
def ProcSplitsUptoSaid : Prop := procSplitsUptoRow.holds Tryz.pinned (OpenSpec.upto procSplitsSpec)

/-- 'donjonlaw17.ProcLimits', WHERE WHAT IT READS IS OF BULK AT MOST 1048576: true; the input reads as it did. -/
def procLimitsUptoRow : OpenClaim := { program := "yteilkbookcmndaagreatdoor", sum := "5ed85cd3be253b51300bc7da316ba661df711b6cc3f7cbf90f5892e012173f54", func := "donjon/donjonlaw17.ProcLimits", spec := "procLimits", inPlace := ["internal/bytealg.CountString", "internal/bytealg.IndexByteString", "internal/bytealg.IndexString", "math.Float64bits", "math.Float64frombits"], unfollowed := true, recurses := true, named := ["unicode/utf8.first", "unicode/utf8.acceptRanges", "internal/bytealg.MaxLen"], apart := false, laid := [("unicode/utf8.acceptRanges", laid_unicode_utf8_acceptRanges), ("unicode/utf8.first", laid_unicode_utf8_first)], narrowed := true }
def ProcLimitsUptoSaid : Prop := procLimitsUptoRow.holds Tryz.pinned (OpenSpec.upto procLimitsSpec)

/-- 'donjonlaw17.ProcMoves', WHERE WHAT IT READS IS OF BULK AT MOST 1048576: true; the input reads as it did. -/
def procMovesUptoRow : OpenClaim := { program := "yteilkbookcmndaagreatdoor", sum := "5ed85cd3be253b51300bc7da316ba661df711b6cc3f7cbf90f5892e012173f54", func := "donjon/donjonlaw17.ProcMoves", spec := "procMoves", inPlace := ["internal/bytealg.CountString", "internal/bytealg.IndexByteString", "internal/bytealg.IndexString", "math.Float64bits", "math.Float64frombits"], unfollowed := true, recurses := true, named := ["unicode/utf8.first", "unicode/utf8.acceptRanges", "internal/bytealg.MaxLen"], apart := false, laid := [("unicode/utf8.acceptRanges", laid_unicode_utf8_acceptRanges), ("unicode/utf8.first", laid_unicode_utf8_first)], narrowed := true }
def ProcMovesUptoSaid : Prop := procMovesUptoRow.holds Tryz.pinned (OpenSpec.upto procMovesSpec)

/-- 'donjonlaw17.ProcGone', WHERE WHAT IT READS IS OF BULK AT MOST 1048576: true; the input reads as it did. -/
def procGoneUptoRow : OpenClaim := { program := "yteilkbookcmndaagreatdoor", sum := "5ed85cd3be253b51300bc7da316ba661df711b6cc3f7cbf90f5892e012173f54", func := "donjon/donjonlaw17.ProcGone", spec := "procGone", inPlace := ["internal/bytealg.CountString", "internal/bytealg.IndexByteString", "internal/bytealg.IndexString", "math.Float64bits", "math.Float64frombits"], unfollowed := true, recurses := true, named := ["unicode/utf8.first", "unicode/utf8.acceptRanges", "internal/bytealg.MaxLen"], apart := false, laid := [("unicode/utf8.acceptRanges", laid_unicode_utf8_acceptRanges), ("unicode/utf8.first", laid_unicode_utf8_first)], narrowed := true }
def ProcGoneUptoSaid : Prop := procGoneUptoRow.holds Tryz.pinned (OpenSpec.upto procGoneSpec)

end Rows
end Go.Proofs.YteilkbookcmndaaGreatDoor

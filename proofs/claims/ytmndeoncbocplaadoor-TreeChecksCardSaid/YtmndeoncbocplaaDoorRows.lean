/-
  NARROWER THAN 'FOR EVERY INPUT', by the rows' own cells (each row's printed sentence says how): PathChecks: laid · PathIn: laid · PathTurns: laid · PathDepth: laid · MonitorSecure: laid · MonitorMore: laid · MonitorHigher: laid · MonitorUsers: laid · MonitorModes: laid · MonitorAsks: laid · MonitorBlind: laid · MonitorChanges: laid · TreeChecks: laid · TreeUnders: laid · TreeRises: laid · TreeLabels: laid · TreePlays: laid.
  DERIVED. THE GIVEN ROWS OF THIS SEAT. 17 by the template 'for every input the law returns true; each argument reads behind the call as it read before'; 0 by the template 'total and deterministic' (their statements: YtmndeoncbocplaaDoorTotals.lean).
  GIVEN WITH THE SEED: the statements are not yours to turn. If you find one false, say at which input.
  Laid BY PROGRAM, IN A SANDBOX (cutbox-rows.mjs): the forced cells as the released guide's own fill.sh prints them over the translation 5dbcf43b1a62d1d7… (all of the seat's roots in one cut). By AI agents, Wed Nov 11 2026. No macro, syntax, notation, axiom, sorry.
-/
import Derived.Test.YtmndeoncbocplaaDoorChecked
import GoSem.PinnedTables
import GoSem.Claim
import GoSem.ClaimJoined
import GoSem.ClaimMapViews
import Derived.JoinedTies
import Derived.KernelRfl
namespace Go.Proofs.YtmndeoncbocplaaDoor
/- THE CELL 'sum', in the pinned program and in every row, IS THE sha256 OF THE DUMP (.gsa) THAT YtmndeoncbocplaaDoorProg.lean LOADS. Nothing in Lean hashes anything: it is a label: what it is worth is what the hold of that sum in a sandbox is worth. -/
noncomputable def Tryd.pinned : Pinned := { name := "ytmndeoncbocplaadoor", sum := "5dbcf43b1a62d1d7509059fb43bff28cfef8c03adf9e7dabfce00bb0c5dece03", checked := Tryd.checked }
namespace Rows
def none {H : Type} : Left H := { results := [], args := [] }

/- WHAT THE LISTED PACKAGE-LEVEL VARIABLES READ AS WHEN THE CALL BEGINS. Each datum BY PROGRAM (the guide's laid-datum.mjs) off the statement by which the dump's own 'gosem.cut.vars' lays the variable. In a bare row this is a premise. The card (YtmndeoncbocplaaDoorCards.lean) ties it to the program's text. -/
def laid_unicode_utf8_acceptRanges {H : Type} : DataW H := .agg [.agg [.lit (.int .u8 128), .lit (.int .u8 191)], .agg [.lit (.int .u8 160), .lit (.int .u8 191)], .agg [.lit (.int .u8 128), .lit (.int .u8 159)], .agg [.lit (.int .u8 144), .lit (.int .u8 191)], .agg [.lit (.int .u8 128), .lit (.int .u8 143)], .agg [.lit (.int .u8 0), .lit (.int .u8 0)], .agg [.lit (.int .u8 0), .lit (.int .u8 0)], .agg [.lit (.int .u8 0), .lit (.int .u8 0)], .agg [.lit (.int .u8 0), .lit (.int .u8 0)], .agg [.lit (.int .u8 0), .lit (.int .u8 0)], .agg [.lit (.int .u8 0), .lit (.int .u8 0)], .agg [.lit (.int .u8 0), .lit (.int .u8 0)], .agg [.lit (.int .u8 0), .lit (.int .u8 0)], .agg [.lit (.int .u8 0), .lit (.int .u8 0)], .agg [.lit (.int .u8 0), .lit (.int .u8 0)], .agg [.lit (.int .u8 0), .lit (.int .u8 0)]]
/-- One of Go's own tables, pinned by name: the form's constant. -/
def laid_unicode_utf8_first : DataW Unit := Go.Pinned.utf8First
def laid_math_bits_deBruijn32tab {H : Type} : DataW H := .agg [.lit (.int .u8 0), .lit (.int .u8 1), .lit (.int .u8 28), .lit (.int .u8 2), .lit (.int .u8 29), .lit (.int .u8 14), .lit (.int .u8 24), .lit (.int .u8 3), .lit (.int .u8 30), .lit (.int .u8 22), .lit (.int .u8 20), .lit (.int .u8 15), .lit (.int .u8 25), .lit (.int .u8 17), .lit (.int .u8 4), .lit (.int .u8 8), .lit (.int .u8 31), .lit (.int .u8 27), .lit (.int .u8 13), .lit (.int .u8 23), .lit (.int .u8 21), .lit (.int .u8 19), .lit (.int .u8 16), .lit (.int .u8 7), .lit (.int .u8 26), .lit (.int .u8 12), .lit (.int .u8 18), .lit (.int .u8 6), .lit (.int .u8 11), .lit (.int .u8 5), .lit (.int .u8 10), .lit (.int .u8 9)]
def laid_math_bits_deBruijn64tab {H : Type} : DataW H := .agg [.lit (.int .u8 0), .lit (.int .u8 1), .lit (.int .u8 56), .lit (.int .u8 2), .lit (.int .u8 57), .lit (.int .u8 49), .lit (.int .u8 28), .lit (.int .u8 3), .lit (.int .u8 61), .lit (.int .u8 58), .lit (.int .u8 42), .lit (.int .u8 50), .lit (.int .u8 38), .lit (.int .u8 29), .lit (.int .u8 17), .lit (.int .u8 4), .lit (.int .u8 62), .lit (.int .u8 47), .lit (.int .u8 59), .lit (.int .u8 36), .lit (.int .u8 45), .lit (.int .u8 43), .lit (.int .u8 51), .lit (.int .u8 22), .lit (.int .u8 53), .lit (.int .u8 39), .lit (.int .u8 33), .lit (.int .u8 30), .lit (.int .u8 24), .lit (.int .u8 18), .lit (.int .u8 12), .lit (.int .u8 5), .lit (.int .u8 63), .lit (.int .u8 55), .lit (.int .u8 48), .lit (.int .u8 27), .lit (.int .u8 60), .lit (.int .u8 41), .lit (.int .u8 37), .lit (.int .u8 16), .lit (.int .u8 46), .lit (.int .u8 35), .lit (.int .u8 44), .lit (.int .u8 21), .lit (.int .u8 52), .lit (.int .u8 32), .lit (.int .u8 23), .lit (.int .u8 11), .lit (.int .u8 54), .lit (.int .u8 26), .lit (.int .u8 40), .lit (.int .u8 15), .lit (.int .u8 34), .lit (.int .u8 20), .lit (.int .u8 31), .lit (.int .u8 10), .lit (.int .u8 25), .lit (.int .u8 14), .lit (.int .u8 19), .lit (.int .u8 9), .lit (.int .u8 13), .lit (.int .u8 8), .lit (.int .u8 7), .lit (.int .u8 6)]
def laid_internal_strconv_uint64pow10 {H : Type} : DataW H := .agg [.lit (.int .u64 1), .lit (.int .u64 10), .lit (.int .u64 100), .lit (.int .u64 1000), .lit (.int .u64 10000), .lit (.int .u64 100000), .lit (.int .u64 1000000), .lit (.int .u64 10000000), .lit (.int .u64 100000000), .lit (.int .u64 1000000000), .lit (.int .u64 10000000000), .lit (.int .u64 100000000000), .lit (.int .u64 1000000000000), .lit (.int .u64 10000000000000), .lit (.int .u64 100000000000000), .lit (.int .u64 1000000000000000), .lit (.int .u64 10000000000000000), .lit (.int .u64 100000000000000000), .lit (.int .u64 1000000000000000000), .lit (.int .u64 10000000000000000000)]

/-- 'donjonlaw7.PathChecks': WHATEVER THE INPUT: true; the input reads as it did. -/
def pathChecksSpec : ChangeSpec := { name := "pathChecks", fn := fun _ => fun
  | [d] => { results := [.lit (.bool true)], args := [d] }
  | _ => none }
def pathChecksRow : OpenClaim := { program := "ytmndeoncbocplaadoor", sum := "5dbcf43b1a62d1d7509059fb43bff28cfef8c03adf9e7dabfce00bb0c5dece03", func := "donjon/donjonlaw7.PathChecks", spec := "pathChecks", inPlace := ["internal/bytealg.CountString", "internal/bytealg.IndexByteString", "internal/bytealg.IndexString"], named := ["unicode/utf8.first", "unicode/utf8.acceptRanges", "internal/bytealg.MaxLen"], apart := false, laid := [("unicode/utf8.acceptRanges", laid_unicode_utf8_acceptRanges), ("unicode/utf8.first", laid_unicode_utf8_first)] }
def PathChecksSaid : Prop := pathChecksRow.holds Tryd.pinned (OpenSpec.ofChange pathChecksSpec)

/-- ITS FALSE NEIGHBOUR: 'it returns false'. Refute it at one input. -/
def pathChecksWrong : ChangeSpec := { name := "pathChecks", fn := fun _ => fun
  | [d] => { results := [.lit (.bool false)], args := [d] }
  | _ => none }
def PathChecksWrongFalsely : Prop := pathChecksRow.holds Tryd.pinned (OpenSpec.ofChange pathChecksWrong)

/-- 'donjonlaw7.PathIn': WHATEVER THE INPUT: true; the input reads as it did. -/
def pathInSpec : ChangeSpec := { name := "pathIn", fn := fun _ => fun
  | [d1, d2] => { results := [.lit (.bool true)], args := [d1, d2] }
  | _ => none }
def pathInRow : OpenClaim := { program := "ytmndeoncbocplaadoor", sum := "5dbcf43b1a62d1d7509059fb43bff28cfef8c03adf9e7dabfce00bb0c5dece03", func := "donjon/donjonlaw7.PathIn", spec := "pathIn", inPlace := ["internal/bytealg.CountString", "internal/bytealg.IndexByteString", "internal/bytealg.IndexString"], named := ["unicode/utf8.first", "unicode/utf8.acceptRanges", "internal/bytealg.MaxLen"], apart := false, laid := [("unicode/utf8.acceptRanges", laid_unicode_utf8_acceptRanges), ("unicode/utf8.first", laid_unicode_utf8_first)] }
def PathInSaid : Prop := pathInRow.holds Tryd.pinned (OpenSpec.ofChange pathInSpec)

/-- ITS FALSE NEIGHBOUR: 'it returns false'. Refute it at one input. -/
def pathInWrong : ChangeSpec := { name := "pathIn", fn := fun _ => fun
  | [d1, d2] => { results := [.lit (.bool false)], args := [d1, d2] }
  | _ => none }
def PathInWrongFalsely : Prop := pathInRow.holds Tryd.pinned (OpenSpec.ofChange pathInWrong)

/-- 'donjonlaw7.PathTurns': WHATEVER THE INPUT: true; the input reads as it did. -/
def pathTurnsSpec : ChangeSpec := { name := "pathTurns", fn := fun _ => fun
  | [d1, d2, d3] => { results := [.lit (.bool true)], args := [d1, d2, d3] }
  | _ => none }
def pathTurnsRow : OpenClaim := { program := "ytmndeoncbocplaadoor", sum := "5dbcf43b1a62d1d7509059fb43bff28cfef8c03adf9e7dabfce00bb0c5dece03", func := "donjon/donjonlaw7.PathTurns", spec := "pathTurns", inPlace := ["internal/bytealg.CountString", "internal/bytealg.IndexByteString", "internal/bytealg.IndexString"], named := ["unicode/utf8.first", "unicode/utf8.acceptRanges", "internal/bytealg.MaxLen"], apart := false, laid := [("unicode/utf8.acceptRanges", laid_unicode_utf8_acceptRanges), ("unicode/utf8.first", laid_unicode_utf8_first)] }
def PathTurnsSaid : Prop := pathTurnsRow.holds Tryd.pinned (OpenSpec.ofChange pathTurnsSpec)

/-- ITS FALSE NEIGHBOUR: 'it returns false'. Refute it at one input. -/
def pathTurnsWrong : ChangeSpec := { name := "pathTurns", fn := fun _ => fun
  | [d1, d2, d3] => { results := [.lit (.bool false)], args := [d1, d2, d3] }
  | _ => none }
def PathTurnsWrongFalsely : Prop := pathTurnsRow.holds Tryd.pinned (OpenSpec.ofChange pathTurnsWrong)

/-- 'donjonlaw7.PathDepth': WHATEVER THE INPUT: true; the input reads as it did. -/
def pathDepthSpec : ChangeSpec := { name := "pathDepth", fn := fun _ => fun
  | [d1, d2] => { results := [.lit (.bool true)], args := [d1, d2] }
  | _ => none }
def pathDepthRow : OpenClaim := { program := "ytmndeoncbocplaadoor", sum := "5dbcf43b1a62d1d7509059fb43bff28cfef8c03adf9e7dabfce00bb0c5dece03", func := "donjon/donjonlaw7.PathDepth", spec := "pathDepth", inPlace := ["internal/bytealg.CountString", "internal/bytealg.IndexByteString", "internal/bytealg.IndexString"], named := ["unicode/utf8.first", "unicode/utf8.acceptRanges", "internal/bytealg.MaxLen"], apart := false, laid := [("unicode/utf8.acceptRanges", laid_unicode_utf8_acceptRanges), ("unicode/utf8.first", laid_unicode_utf8_first)] }
def PathDepthSaid : Prop := pathDepthRow.holds Tryd.pinned (OpenSpec.ofChange pathDepthSpec)

/-- ITS FALSE NEIGHBOUR: 'it returns false'. Refute it at one input. -/
def pathDepthWrong : ChangeSpec := { name := "pathDepth", fn := fun _ => fun
  | [d1, d2] => { results := [.lit (.bool false)], args := [d1, d2] }
  | _ => none }
def PathDepthWrongFalsely : Prop := pathDepthRow.holds Tryd.pinned (OpenSpec.ofChange pathDepthWrong)

/-- 'donjonlaw13.MonitorSecure': WHATEVER THE INPUT: true; the input reads as it did. -/
def monitorSecureSpec : ChangeSpec := { name := "monitorSecure", fn := fun _ => fun
  | [d1, d2, d3, d4, d5, d6] => { results := [.lit (.bool true)], args := [d1, d2, d3, d4, d5, d6] }
  | _ => none }
def monitorSecureRow : OpenClaim := { program := "ytmndeoncbocplaadoor", sum := "5dbcf43b1a62d1d7509059fb43bff28cfef8c03adf9e7dabfce00bb0c5dece03", func := "donjon/donjonlaw13.MonitorSecure", spec := "monitorSecure", inPlace := ["internal/bytealg.CountString", "internal/bytealg.IndexByteString", "internal/bytealg.IndexString"], unfollowed := true, recurses := true, named := ["unicode/utf8.first", "unicode/utf8.acceptRanges", "internal/bytealg.MaxLen"], apart := false, laid := [("unicode/utf8.acceptRanges", laid_unicode_utf8_acceptRanges), ("unicode/utf8.first", laid_unicode_utf8_first)] }
def MonitorSecureSaid : Prop := monitorSecureRow.holds Tryd.pinned (OpenSpec.ofChange monitorSecureSpec)

/-- ITS FALSE NEIGHBOUR: 'it returns false'. Refute it at one input. -/
def monitorSecureWrong : ChangeSpec := { name := "monitorSecure", fn := fun _ => fun
  | [d1, d2, d3, d4, d5, d6] => { results := [.lit (.bool false)], args := [d1, d2, d3, d4, d5, d6] }
  | _ => none }
def MonitorSecureWrongFalsely : Prop := monitorSecureRow.holds Tryd.pinned (OpenSpec.ofChange monitorSecureWrong)

/-- 'donjonlaw13.MonitorMore': WHATEVER THE INPUT: true; the input reads as it did. -/
def monitorMoreSpec : ChangeSpec := { name := "monitorMore", fn := fun _ => fun
  | [d1, d2, d3, d4] => { results := [.lit (.bool true)], args := [d1, d2, d3, d4] }
  | _ => none }
def monitorMoreRow : OpenClaim := { program := "ytmndeoncbocplaadoor", sum := "5dbcf43b1a62d1d7509059fb43bff28cfef8c03adf9e7dabfce00bb0c5dece03", func := "donjon/donjonlaw13.MonitorMore", spec := "monitorMore", inPlace := ["internal/bytealg.CountString", "internal/bytealg.IndexByteString", "internal/bytealg.IndexString"], unfollowed := true, recurses := true, named := ["unicode/utf8.first", "unicode/utf8.acceptRanges", "internal/bytealg.MaxLen"], apart := false, laid := [("unicode/utf8.acceptRanges", laid_unicode_utf8_acceptRanges), ("unicode/utf8.first", laid_unicode_utf8_first)] }
def MonitorMoreSaid : Prop := monitorMoreRow.holds Tryd.pinned (OpenSpec.ofChange monitorMoreSpec)

/-- ITS FALSE NEIGHBOUR: 'it returns false'. Refute it at one input. -/
def monitorMoreWrong : ChangeSpec := { name := "monitorMore", fn := fun _ => fun
  | [d1, d2, d3, d4] => { results := [.lit (.bool false)], args := [d1, d2, d3, d4] }
  | _ => none }
def MonitorMoreWrongFalsely : Prop := monitorMoreRow.holds Tryd.pinned (OpenSpec.ofChange monitorMoreWrong)

/-- 'donjonlaw13.MonitorHigher': WHATEVER THE INPUT: true; the input reads as it did. -/
def monitorHigherSpec : ChangeSpec := { name := "monitorHigher", fn := fun _ => fun
  | [d1, d2, d3, d4, d5] => { results := [.lit (.bool true)], args := [d1, d2, d3, d4, d5] }
  | _ => none }
def monitorHigherRow : OpenClaim := { program := "ytmndeoncbocplaadoor", sum := "5dbcf43b1a62d1d7509059fb43bff28cfef8c03adf9e7dabfce00bb0c5dece03", func := "donjon/donjonlaw13.MonitorHigher", spec := "monitorHigher", inPlace := ["internal/bytealg.CountString", "internal/bytealg.IndexByteString", "internal/bytealg.IndexString"], unfollowed := true, recurses := true, named := ["unicode/utf8.first", "unicode/utf8.acceptRanges", "internal/bytealg.MaxLen"], apart := false, laid := [("unicode/utf8.acceptRanges", laid_unicode_utf8_acceptRanges), ("unicode/utf8.first", laid_unicode_utf8_first)] }
def MonitorHigherSaid : Prop := monitorHigherRow.holds Tryd.pinned (OpenSpec.ofChange monitorHigherSpec)

/-- ITS FALSE NEIGHBOUR: 'it returns false'. Refute it at one input. -/
def monitorHigherWrong : ChangeSpec := { name := "monitorHigher", fn := fun _ => fun
  | [d1, d2, d3, d4, d5] => { results := [.lit (.bool false)], args := [d1, d2, d3, d4, d5] }
  | _ => none }
def MonitorHigherWrongFalsely : Prop := monitorHigherRow.holds Tryd.pinned (OpenSpec.ofChange monitorHigherWrong)

/-- 'donjonlaw13.MonitorUsers': WHATEVER THE INPUT: true; the input reads as it did. -/
def monitorUsersSpec : ChangeSpec := { name := "monitorUsers", fn := fun _ => fun
  | [d1, d2, d3, d4, d5] => { results := [.lit (.bool true)], args := [d1, d2, d3, d4, d5] }
  | _ => none }
def monitorUsersRow : OpenClaim := { program := "ytmndeoncbocplaadoor", sum := "5dbcf43b1a62d1d7509059fb43bff28cfef8c03adf9e7dabfce00bb0c5dece03", func := "donjon/donjonlaw13.MonitorUsers", spec := "monitorUsers", inPlace := ["internal/bytealg.CountString", "internal/bytealg.IndexByteString", "internal/bytealg.IndexString"], unfollowed := true, recurses := true, named := ["unicode/utf8.first", "unicode/utf8.acceptRanges", "internal/bytealg.MaxLen"], apart := false, laid := [("unicode/utf8.acceptRanges", laid_unicode_utf8_acceptRanges), ("unicode/utf8.first", laid_unicode_utf8_first)] }
def MonitorUsersSaid : Prop := monitorUsersRow.holds Tryd.pinned (OpenSpec.ofChange monitorUsersSpec)

/-- ITS FALSE NEIGHBOUR: 'it returns false'. Refute it at one input. -/
def monitorUsersWrong : ChangeSpec := { name := "monitorUsers", fn := fun _ => fun
  | [d1, d2, d3, d4, d5] => { results := [.lit (.bool false)], args := [d1, d2, d3, d4, d5] }
  | _ => none }
def MonitorUsersWrongFalsely : Prop := monitorUsersRow.holds Tryd.pinned (OpenSpec.ofChange monitorUsersWrong)

/-- 'donjonlaw13.MonitorModes': WHATEVER THE INPUT: true; the input reads as it did. -/
def monitorModesSpec : ChangeSpec := { name := "monitorModes", fn := fun _ => fun
  | [d1, d2, d3, d4] => { results := [.lit (.bool true)], args := [d1, d2, d3, d4] }
  | _ => none }
def monitorModesRow : OpenClaim := { program := "ytmndeoncbocplaadoor", sum := "5dbcf43b1a62d1d7509059fb43bff28cfef8c03adf9e7dabfce00bb0c5dece03", func := "donjon/donjonlaw13.MonitorModes", spec := "monitorModes", inPlace := ["internal/bytealg.CountString", "internal/bytealg.IndexByteString", "internal/bytealg.IndexString"], unfollowed := true, recurses := true, named := ["unicode/utf8.first", "unicode/utf8.acceptRanges", "internal/bytealg.MaxLen"], apart := false, laid := [("unicode/utf8.acceptRanges", laid_unicode_utf8_acceptRanges), ("unicode/utf8.first", laid_unicode_utf8_first)] }
def MonitorModesSaid : Prop := monitorModesRow.holds Tryd.pinned (OpenSpec.ofChange monitorModesSpec)

/-- ITS FALSE NEIGHBOUR: 'it returns false'. Refute it at one input. -/
def monitorModesWrong : ChangeSpec := { name := "monitorModes", fn := fun _ => fun
  | [d1, d2, d3, d4] => { results := [.lit (.bool false)], args := [d1, d2, d3, d4] }
  | _ => none }
def MonitorModesWrongFalsely : Prop := monitorModesRow.holds Tryd.pinned (OpenSpec.ofChange monitorModesWrong)

/-- 'donjonlaw13.MonitorAsks': WHATEVER THE INPUT: true; the input reads as it did. -/
def monitorAsksSpec : ChangeSpec := { name := "monitorAsks", fn := fun _ => fun
  | [d1, d2, d3, d4, d5, d6, d7, d8] => { results := [.lit (.bool true)], args := [d1, d2, d3, d4, d5, d6, d7, d8] }
  | _ => none }
def monitorAsksRow : OpenClaim := { program := "ytmndeoncbocplaadoor", sum := "5dbcf43b1a62d1d7509059fb43bff28cfef8c03adf9e7dabfce00bb0c5dece03", func := "donjon/donjonlaw13.MonitorAsks", spec := "monitorAsks", inPlace := ["internal/bytealg.CountString", "internal/bytealg.IndexByteString", "internal/bytealg.IndexString"], unfollowed := true, recurses := true, named := ["unicode/utf8.first", "unicode/utf8.acceptRanges", "internal/bytealg.MaxLen"], apart := false, laid := [("unicode/utf8.acceptRanges", laid_unicode_utf8_acceptRanges), ("unicode/utf8.first", laid_unicode_utf8_first)] }
def MonitorAsksSaid : Prop := monitorAsksRow.holds Tryd.pinned (OpenSpec.ofChange monitorAsksSpec)

/-- ITS FALSE NEIGHBOUR: 'it returns false'. Refute it at one input. -/
def monitorAsksWrong : ChangeSpec := { name := "monitorAsks", fn := fun _ => fun
  | [d1, d2, d3, d4, d5, d6, d7, d8] => { results := [.lit (.bool false)], args := [d1, d2, d3, d4, d5, d6, d7, d8] }
  | _ => none }
def MonitorAsksWrongFalsely : Prop := monitorAsksRow.holds Tryd.pinned (OpenSpec.ofChange monitorAsksWrong)

/-- 'donjonlaw13.MonitorBlind': WHATEVER THE INPUT: true; the input reads as it did. -/
def monitorBlindSpec : ChangeSpec := { name := "monitorBlind", fn := fun _ => fun
  | [d1, d2, d3, d4, d5, d6, d7] => { results := [.lit (.bool true)], args := [d1, d2, d3, d4, d5, d6, d7] }
  | _ => none }
def monitorBlindRow : OpenClaim := { program := "ytmndeoncbocplaadoor", sum := "5dbcf43b1a62d1d7509059fb43bff28cfef8c03adf9e7dabfce00bb0c5dece03", func := "donjon/donjonlaw13.MonitorBlind", spec := "monitorBlind", inPlace := ["internal/bytealg.CountString", "internal/bytealg.IndexByteString", "internal/bytealg.IndexString"], unfollowed := true, recurses := true, named := ["unicode/utf8.first", "unicode/utf8.acceptRanges", "internal/bytealg.MaxLen"], apart := false, laid := [("unicode/utf8.acceptRanges", laid_unicode_utf8_acceptRanges), ("unicode/utf8.first", laid_unicode_utf8_first)] }
def MonitorBlindSaid : Prop := monitorBlindRow.holds Tryd.pinned (OpenSpec.ofChange monitorBlindSpec)

/-- ITS FALSE NEIGHBOUR: 'it returns false'. Refute it at one input. -/
def monitorBlindWrong : ChangeSpec := { name := "monitorBlind", fn := fun _ => fun
  | [d1, d2, d3, d4, d5, d6, d7] => { results := [.lit (.bool false)], args := [d1, d2, d3, d4, d5, d6, d7] }
  | _ => none }
def MonitorBlindWrongFalsely : Prop := monitorBlindRow.holds Tryd.pinned (OpenSpec.ofChange monitorBlindWrong)

/-- 'donjonlaw13.MonitorChanges': WHATEVER THE INPUT: true; the input reads as it did. -/
def monitorChangesSpec : ChangeSpec := { name := "monitorChanges", fn := fun _ => fun
  | [d1, d2, d3, d4, d5] => { results := [.lit (.bool true)], args := [d1, d2, d3, d4, d5] }
  | _ => none }
def monitorChangesRow : OpenClaim := { program := "ytmndeoncbocplaadoor", sum := "5dbcf43b1a62d1d7509059fb43bff28cfef8c03adf9e7dabfce00bb0c5dece03", func := "donjon/donjonlaw13.MonitorChanges", spec := "monitorChanges", inPlace := ["internal/bytealg.CountString", "internal/bytealg.IndexByteString", "internal/bytealg.IndexString"], unfollowed := true, recurses := true, named := ["unicode/utf8.first", "unicode/utf8.acceptRanges", "internal/bytealg.MaxLen"], apart := false, laid := [("unicode/utf8.acceptRanges", laid_unicode_utf8_acceptRanges), ("unicode/utf8.first", laid_unicode_utf8_first)] }
def MonitorChangesSaid : Prop := monitorChangesRow.holds Tryd.pinned (OpenSpec.ofChange monitorChangesSpec)

/-- ITS FALSE NEIGHBOUR: 'it returns false'. Refute it at one input. -/
def monitorChangesWrong : ChangeSpec := { name := "monitorChanges", fn := fun _ => fun
  | [d1, d2, d3, d4, d5] => { results := [.lit (.bool false)], args := [d1, d2, d3, d4, d5] }
  | _ => none }
def MonitorChangesWrongFalsely : Prop := monitorChangesRow.holds Tryd.pinned (OpenSpec.ofChange monitorChangesWrong)

/-- 'donjonlaw11.TreeChecks': WHATEVER THE INPUT: true; the input reads as it did. -/
def treeChecksSpec : ChangeSpec := { name := "treeChecks", fn := fun _ => fun
  | [d1, d2, d3, d4, d5, d6] => { results := [.lit (.bool true)], args := [d1, d2, d3, d4, d5, d6] }
  | _ => none }
def treeChecksRow : OpenClaim := { program := "ytmndeoncbocplaadoor", sum := "5dbcf43b1a62d1d7509059fb43bff28cfef8c03adf9e7dabfce00bb0c5dece03", func := "donjon/donjonlaw11.TreeChecks", spec := "treeChecks", inPlace := ["internal/bytealg.CountString", "internal/bytealg.IndexByteString", "internal/bytealg.IndexString"], unfollowed := true, recurses := true, named := ["internal/strconv.uint64pow10", "math/bits.deBruijn32tab", "math/bits.deBruijn64tab", "unicode/utf8.first", "unicode/utf8.acceptRanges", "internal/bytealg.MaxLen"], apart := false, laid := [("math/bits.deBruijn32tab", laid_math_bits_deBruijn32tab), ("math/bits.deBruijn64tab", laid_math_bits_deBruijn64tab), ("internal/strconv.uint64pow10", laid_internal_strconv_uint64pow10), ("unicode/utf8.acceptRanges", laid_unicode_utf8_acceptRanges), ("unicode/utf8.first", laid_unicode_utf8_first)] }
def TreeChecksSaid : Prop := treeChecksRow.holds Tryd.pinned (OpenSpec.ofChange treeChecksSpec)

/-- ITS FALSE NEIGHBOUR: 'it returns false'. Refute it at one input. -/
def treeChecksWrong : ChangeSpec := { name := "treeChecks", fn := fun _ => fun
  | [d1, d2, d3, d4, d5, d6] => { results := [.lit (.bool false)], args := [d1, d2, d3, d4, d5, d6] }
  | _ => none }
def TreeChecksWrongFalsely : Prop := treeChecksRow.holds Tryd.pinned (OpenSpec.ofChange treeChecksWrong)

/-- 'donjonlaw11.TreeUnders': WHATEVER THE INPUT: true; the input reads as it did. -/
def treeUndersSpec : ChangeSpec := { name := "treeUnders", fn := fun _ => fun
  | [d1, d2] => { results := [.lit (.bool true)], args := [d1, d2] }
  | _ => none }
def treeUndersRow : OpenClaim := { program := "ytmndeoncbocplaadoor", sum := "5dbcf43b1a62d1d7509059fb43bff28cfef8c03adf9e7dabfce00bb0c5dece03", func := "donjon/donjonlaw11.TreeUnders", spec := "treeUnders", unfollowed := true, recurses := true, named := ["internal/strconv.uint64pow10", "math/bits.deBruijn32tab", "math/bits.deBruijn64tab"], apart := false, laid := [("math/bits.deBruijn32tab", laid_math_bits_deBruijn32tab), ("math/bits.deBruijn64tab", laid_math_bits_deBruijn64tab), ("internal/strconv.uint64pow10", laid_internal_strconv_uint64pow10)] }
def TreeUndersSaid : Prop := treeUndersRow.holds Tryd.pinned (OpenSpec.ofChange treeUndersSpec)

/-- ITS FALSE NEIGHBOUR: 'it returns false'. Refute it at one input. -/
def treeUndersWrong : ChangeSpec := { name := "treeUnders", fn := fun _ => fun
  | [d1, d2] => { results := [.lit (.bool false)], args := [d1, d2] }
  | _ => none }
def TreeUndersWrongFalsely : Prop := treeUndersRow.holds Tryd.pinned (OpenSpec.ofChange treeUndersWrong)

/-- 'donjonlaw11.TreeRises': WHATEVER THE INPUT: true; the input reads as it did. -/
def treeRisesSpec : ChangeSpec := { name := "treeRises", fn := fun _ => fun
  | [d1, d2] => { results := [.lit (.bool true)], args := [d1, d2] }
  | _ => none }
def treeRisesRow : OpenClaim := { program := "ytmndeoncbocplaadoor", sum := "5dbcf43b1a62d1d7509059fb43bff28cfef8c03adf9e7dabfce00bb0c5dece03", func := "donjon/donjonlaw11.TreeRises", spec := "treeRises", inPlace := ["internal/bytealg.CountString", "internal/bytealg.IndexByteString", "internal/bytealg.IndexString"], unfollowed := true, recurses := true, named := ["internal/strconv.uint64pow10", "math/bits.deBruijn32tab", "math/bits.deBruijn64tab", "unicode/utf8.first", "unicode/utf8.acceptRanges", "internal/bytealg.MaxLen"], apart := false, laid := [("math/bits.deBruijn32tab", laid_math_bits_deBruijn32tab), ("math/bits.deBruijn64tab", laid_math_bits_deBruijn64tab), ("internal/strconv.uint64pow10", laid_internal_strconv_uint64pow10), ("unicode/utf8.acceptRanges", laid_unicode_utf8_acceptRanges), ("unicode/utf8.first", laid_unicode_utf8_first)] }
def TreeRisesSaid : Prop := treeRisesRow.holds Tryd.pinned (OpenSpec.ofChange treeRisesSpec)

/-- ITS FALSE NEIGHBOUR: 'it returns false'. Refute it at one input. -/
def treeRisesWrong : ChangeSpec := { name := "treeRises", fn := fun _ => fun
  | [d1, d2] => { results := [.lit (.bool false)], args := [d1, d2] }
  | _ => none }
def TreeRisesWrongFalsely : Prop := treeRisesRow.holds Tryd.pinned (OpenSpec.ofChange treeRisesWrong)

/-- 'donjonlaw11.TreeLabels': WHATEVER THE INPUT: true; the input reads as it did. -/
def treeLabelsSpec : ChangeSpec := { name := "treeLabels", fn := fun _ => fun
  | [d1, d2, d3, d4, d5] => { results := [.lit (.bool true)], args := [d1, d2, d3, d4, d5] }
  | _ => none }
def treeLabelsRow : OpenClaim := { program := "ytmndeoncbocplaadoor", sum := "5dbcf43b1a62d1d7509059fb43bff28cfef8c03adf9e7dabfce00bb0c5dece03", func := "donjon/donjonlaw11.TreeLabels", spec := "treeLabels", inPlace := ["slices.overlaps[donjon/api.Node]", "internal/bytealg.CountString", "internal/bytealg.IndexByteString", "internal/bytealg.IndexString"], unfollowed := true, recurses := true, named := ["internal/strconv.uint64pow10", "math/bits.deBruijn32tab", "math/bits.deBruijn64tab", "unicode/utf8.first", "unicode/utf8.acceptRanges", "internal/bytealg.MaxLen"], apart := false, laid := [("math/bits.deBruijn32tab", laid_math_bits_deBruijn32tab), ("math/bits.deBruijn64tab", laid_math_bits_deBruijn64tab), ("internal/strconv.uint64pow10", laid_internal_strconv_uint64pow10), ("unicode/utf8.acceptRanges", laid_unicode_utf8_acceptRanges), ("unicode/utf8.first", laid_unicode_utf8_first)] }
def TreeLabelsSaid : Prop := treeLabelsRow.holds Tryd.pinned (OpenSpec.ofChange treeLabelsSpec)

/-- ITS FALSE NEIGHBOUR: 'it returns false'. Refute it at one input. -/
def treeLabelsWrong : ChangeSpec := { name := "treeLabels", fn := fun _ => fun
  | [d1, d2, d3, d4, d5] => { results := [.lit (.bool false)], args := [d1, d2, d3, d4, d5] }
  | _ => none }
def TreeLabelsWrongFalsely : Prop := treeLabelsRow.holds Tryd.pinned (OpenSpec.ofChange treeLabelsWrong)

/-- 'donjonlaw11.TreePlays': WHATEVER THE INPUT: true; the input reads as it did. -/
def treePlaysSpec : ChangeSpec := { name := "treePlays", fn := fun _ => fun
  | [d1, d2, d3, d4] => { results := [.lit (.bool true)], args := [d1, d2, d3, d4] }
  | _ => none }
def treePlaysRow : OpenClaim := { program := "ytmndeoncbocplaadoor", sum := "5dbcf43b1a62d1d7509059fb43bff28cfef8c03adf9e7dabfce00bb0c5dece03", func := "donjon/donjonlaw11.TreePlays", spec := "treePlays", inPlace := ["slices.overlaps[donjon/api.Node]"], unfollowed := true, recurses := true, named := ["internal/strconv.uint64pow10", "math/bits.deBruijn32tab", "math/bits.deBruijn64tab"], apart := false, laid := [("math/bits.deBruijn32tab", laid_math_bits_deBruijn32tab), ("math/bits.deBruijn64tab", laid_math_bits_deBruijn64tab), ("internal/strconv.uint64pow10", laid_internal_strconv_uint64pow10)] }
def TreePlaysSaid : Prop := treePlaysRow.holds Tryd.pinned (OpenSpec.ofChange treePlaysSpec)

/-- ITS FALSE NEIGHBOUR: 'it returns false'. Refute it at one input. -/
def treePlaysWrong : ChangeSpec := { name := "treePlays", fn := fun _ => fun
  | [d1, d2, d3, d4] => { results := [.lit (.bool false)], args := [d1, d2, d3, d4] }
  | _ => none }
def TreePlaysWrongFalsely : Prop := treePlaysRow.holds Tryd.pinned (OpenSpec.ofChange treePlaysWrong)

/- THE SECOND FORM. 'bulk': how many values and letters a reading holds, each counted each time it is reached (what is shared counts as often as it is met; a slice's spare places count too). A statement '..UptoSaid' is the law's where the arguments, and the package variables that the reading takes, are together of bulk at most 1048576: NARROWER than '..Said'. Prove '..Said' where nothing that the law and all that it calls make is longer than what came in: it says more and counts as full. Else prove '..UptoSaid'. A law counts once. -/
mutual
def uptoBulk {H : Type} : DataW H → Nat
  | .lit (.string bytes) => bytes.length + 1
  | .lit _ => 1
  | .nil => 1
  | .ptr d => uptoBulk d + 1
  | .slice elems spare => uptoBulkAll elems + uptoBulkAll spare + 1
  | .agg parts => uptoBulkAll parts + 1
  | .iface _ d => uptoBulk d + 1
  | .map entries => uptoBulkEntries entries + 1
  | .held _ => 1
def uptoBulkAll {H : Type} : List (DataW H) → Nat
  | [] => 0
  | d :: r => uptoBulk d + uptoBulkAll r
def uptoBulkEntries {H : Type} : List (Lit × DataW H) → Nat
  | [] => 0
  | x :: r => uptoBulkEntry x + uptoBulkEntries r
def uptoBulkEntry {H : Type} : Lit × DataW H → Nat
  | (.string bytes, d) => bytes.length + uptoBulk d + 1
  | (_, d) => uptoBulk d + 1
 end
def uptoSmall : (H : Type) → List (DataW H) → Bool := fun _ ds => decide (uptoBulkAll ds ≤ 1048576)
def OpenSpec.upto (s : _root_.Go.ChangeSpec) : _root_.Go.OpenSpec := { _root_.Go.OpenSpec.ofChange s with cond := some uptoSmall }

/-- 'donjonlaw7.PathChecks', WHERE WHAT IT READS IS OF BULK AT MOST 1048576: true; the input reads as it did. -/
def pathChecksUptoRow : OpenClaim := { program := "ytmndeoncbocplaadoor", sum := "5dbcf43b1a62d1d7509059fb43bff28cfef8c03adf9e7dabfce00bb0c5dece03", func := "donjon/donjonlaw7.PathChecks", spec := "pathChecks", inPlace := ["internal/bytealg.CountString", "internal/bytealg.IndexByteString", "internal/bytealg.IndexString"], named := ["unicode/utf8.first", "unicode/utf8.acceptRanges", "internal/bytealg.MaxLen"], apart := false, laid := [("unicode/utf8.acceptRanges", laid_unicode_utf8_acceptRanges), ("unicode/utf8.first", laid_unicode_utf8_first)], narrowed := true }
def PathChecksUptoSaid : Prop := pathChecksUptoRow.holds Tryd.pinned (OpenSpec.upto pathChecksSpec)

/-- 'donjonlaw7.PathIn', WHERE WHAT IT READS IS OF BULK AT MOST 1048576: true; the input reads as it did. -/
def pathInUptoRow : OpenClaim := { program := "ytmndeoncbocplaadoor", sum := "5dbcf43b1a62d1d7509059fb43bff28cfef8c03adf9e7dabfce00bb0c5dece03", func := "donjon/donjonlaw7.PathIn", spec := "pathIn", inPlace := ["internal/bytealg.CountString", "internal/bytealg.IndexByteString", "internal/bytealg.IndexString"], named := ["unicode/utf8.first", "unicode/utf8.acceptRanges", "internal/bytealg.MaxLen"], apart := false, laid := [("unicode/utf8.acceptRanges", laid_unicode_utf8_acceptRanges), ("unicode/utf8.first", laid_unicode_utf8_first)], narrowed := true }
def PathInUptoSaid : Prop := pathInUptoRow.holds Tryd.pinned (OpenSpec.upto pathInSpec)

/-- 'donjonlaw7.PathTurns', WHERE WHAT IT READS IS OF BULK AT MOST 1048576: true; the input reads as it did. -/
def pathTurnsUptoRow : OpenClaim := { program := "ytmndeoncbocplaadoor", sum := "5dbcf43b1a62d1d7509059fb43bff28cfef8c03adf9e7dabfce00bb0c5dece03", func := "donjon/donjonlaw7.PathTurns", spec := "pathTurns", inPlace := ["internal/bytealg.CountString", "internal/bytealg.IndexByteString", "internal/bytealg.IndexString"], named := ["unicode/utf8.first", "unicode/utf8.acceptRanges", "internal/bytealg.MaxLen"], apart := false, laid := [("unicode/utf8.acceptRanges", laid_unicode_utf8_acceptRanges), ("unicode/utf8.first", laid_unicode_utf8_first)], narrowed := true }
def PathTurnsUptoSaid : Prop := pathTurnsUptoRow.holds Tryd.pinned (OpenSpec.upto pathTurnsSpec)

/-- 'donjonlaw7.PathDepth', WHERE WHAT IT READS IS OF BULK AT MOST 1048576: true; the input reads as it did. -/
def pathDepthUptoRow : OpenClaim := { program := "ytmndeoncbocplaadoor", sum := "5dbcf43b1a62d1d7509059fb43bff28cfef8c03adf9e7dabfce00bb0c5dece03", func := "donjon/donjonlaw7.PathDepth", spec := "pathDepth", inPlace := ["internal/bytealg.CountString", "internal/bytealg.IndexByteString", "internal/bytealg.IndexString"], named := ["unicode/utf8.first", "unicode/utf8.acceptRanges", "internal/bytealg.MaxLen"], apart := false, laid := [("unicode/utf8.acceptRanges", laid_unicode_utf8_acceptRanges), ("unicode/utf8.first", laid_unicode_utf8_first)], narrowed := true }
def PathDepthUptoSaid : Prop := pathDepthUptoRow.holds Tryd.pinned (OpenSpec.upto pathDepthSpec)

/-- 'donjonlaw13.MonitorSecure', WHERE WHAT IT READS IS OF BULK AT MOST 1048576: true; the input reads as it did. -/
def monitorSecureUptoRow : OpenClaim := { program := "ytmndeoncbocplaadoor", sum := "5dbcf43b1a62d1d7509059fb43bff28cfef8c03adf9e7dabfce00bb0c5dece03", func := "donjon/donjonlaw13.MonitorSecure", spec := "monitorSecure", inPlace := ["internal/bytealg.CountString", "internal/bytealg.IndexByteString", "internal/bytealg.IndexString"], unfollowed := true, recurses := true, named := ["unicode/utf8.first", "unicode/utf8.acceptRanges", "internal/bytealg.MaxLen"], apart := false, laid := [("unicode/utf8.acceptRanges", laid_unicode_utf8_acceptRanges), ("unicode/utf8.first", laid_unicode_utf8_first)], narrowed := true }
def MonitorSecureUptoSaid : Prop := monitorSecureUptoRow.holds Tryd.pinned (OpenSpec.upto monitorSecureSpec)

/-- 'donjonlaw13.MonitorMore', WHERE WHAT IT READS IS OF BULK AT MOST 1048576: true; the input reads as it did. -/
def monitorMoreUptoRow : OpenClaim := { program := "ytmndeoncbocplaadoor", sum := "5dbcf43b1a62d1d7509059fb43bff28cfef8c03adf9e7dabfce00bb0c5dece03", func := "donjon/donjonlaw13.MonitorMore", spec := "monitorMore", inPlace := ["internal/bytealg.CountString", "internal/bytealg.IndexByteString", "internal/bytealg.IndexString"], unfollowed := true, recurses := true, named := ["unicode/utf8.first", "unicode/utf8.acceptRanges", "internal/bytealg.MaxLen"], apart := false, laid := [("unicode/utf8.acceptRanges", laid_unicode_utf8_acceptRanges), ("unicode/utf8.first", laid_unicode_utf8_first)], narrowed := true }
def MonitorMoreUptoSaid : Prop := monitorMoreUptoRow.holds Tryd.pinned (OpenSpec.upto monitorMoreSpec)

/-- 'donjonlaw13.MonitorHigher', WHERE WHAT IT READS IS OF BULK AT MOST 1048576: true; the input reads as it did. -/
def monitorHigherUptoRow : OpenClaim := { program := "ytmndeoncbocplaadoor", sum := "5dbcf43b1a62d1d7509059fb43bff28cfef8c03adf9e7dabfce00bb0c5dece03", func := "donjon/donjonlaw13.MonitorHigher", spec := "monitorHigher", inPlace := ["internal/bytealg.CountString", "internal/bytealg.IndexByteString", "internal/bytealg.IndexString"], unfollowed := true, recurses := true, named := ["unicode/utf8.first", "unicode/utf8.acceptRanges", "internal/bytealg.MaxLen"], apart := false, laid := [("unicode/utf8.acceptRanges", laid_unicode_utf8_acceptRanges), ("unicode/utf8.first", laid_unicode_utf8_first)], narrowed := true }
def MonitorHigherUptoSaid : Prop := monitorHigherUptoRow.holds Tryd.pinned (OpenSpec.upto monitorHigherSpec)

/-- 'donjonlaw13.MonitorUsers', WHERE WHAT IT READS IS OF BULK AT MOST 1048576: true; the input reads as it did. -/
def monitorUsersUptoRow : OpenClaim := { program := "ytmndeoncbocplaadoor", sum := "5dbcf43b1a62d1d7509059fb43bff28cfef8c03adf9e7dabfce00bb0c5dece03", func := "donjon/donjonlaw13.MonitorUsers", spec := "monitorUsers", inPlace := ["internal/bytealg.CountString", "internal/bytealg.IndexByteString", "internal/bytealg.IndexString"], unfollowed := true, recurses := true, named := ["unicode/utf8.first", "unicode/utf8.acceptRanges", "internal/bytealg.MaxLen"], apart := false, laid := [("unicode/utf8.acceptRanges", laid_unicode_utf8_acceptRanges), ("unicode/utf8.first", laid_unicode_utf8_first)], narrowed := true }
def MonitorUsersUptoSaid : Prop := monitorUsersUptoRow.holds Tryd.pinned (OpenSpec.upto monitorUsersSpec)

/-- 'donjonlaw13.MonitorModes', WHERE WHAT IT READS IS OF BULK AT MOST 1048576: true; the input reads as it did. -/
def monitorModesUptoRow : OpenClaim := { program := "ytmndeoncbocplaadoor", sum := "5dbcf43b1a62d1d7509059fb43bff28cfef8c03adf9e7dabfce00bb0c5dece03", func := "donjon/donjonlaw13.MonitorModes", spec := "monitorModes", inPlace := ["internal/bytealg.CountString", "internal/bytealg.IndexByteString", "internal/bytealg.IndexString"], unfollowed := true, recurses := true, named := ["unicode/utf8.first", "unicode/utf8.acceptRanges", "internal/bytealg.MaxLen"], apart := false, laid := [("unicode/utf8.acceptRanges", laid_unicode_utf8_acceptRanges), ("unicode/utf8.first", laid_unicode_utf8_first)], narrowed := true }
def MonitorModesUptoSaid : Prop := monitorModesUptoRow.holds Tryd.pinned (OpenSpec.upto monitorModesSpec)

/-- 'donjonlaw13.MonitorAsks', WHERE WHAT IT READS IS OF BULK AT MOST 1048576: true; the input reads as it did. -/
def monitorAsksUptoRow : OpenClaim := { program := "ytmndeoncbocplaadoor", sum := "5dbcf43b1a62d1d7509059fb43bff28cfef8c03adf9e7dabfce00bb0c5dece03", func := "donjon/donjonlaw13.MonitorAsks", spec := "monitorAsks", inPlace := ["internal/bytealg.CountString", "internal/bytealg.IndexByteString", "internal/bytealg.IndexString"], unfollowed := true, recurses := true, named := ["unicode/utf8.first", "unicode/utf8.acceptRanges", "internal/bytealg.MaxLen"], apart := false, laid := [("unicode/utf8.acceptRanges", laid_unicode_utf8_acceptRanges), ("unicode/utf8.first", laid_unicode_utf8_first)], narrowed := true }
def MonitorAsksUptoSaid : Prop := monitorAsksUptoRow.holds Tryd.pinned (OpenSpec.upto monitorAsksSpec)

/-- 'donjonlaw13.MonitorBlind', WHERE WHAT IT READS IS OF BULK AT MOST 1048576: true; the input reads as it did. -/
def monitorBlindUptoRow : OpenClaim := { program := "ytmndeoncbocplaadoor", sum := "5dbcf43b1a62d1d7509059fb43bff28cfef8c03adf9e7dabfce00bb0c5dece03", func := "donjon/donjonlaw13.MonitorBlind", spec := "monitorBlind", inPlace := ["internal/bytealg.CountString", "internal/bytealg.IndexByteString", "internal/bytealg.IndexString"], unfollowed := true, recurses := true, named := ["unicode/utf8.first", "unicode/utf8.acceptRanges", "internal/bytealg.MaxLen"], apart := false, laid := [("unicode/utf8.acceptRanges", laid_unicode_utf8_acceptRanges), ("unicode/utf8.first", laid_unicode_utf8_first)], narrowed := true }
def MonitorBlindUptoSaid : Prop := monitorBlindUptoRow.holds Tryd.pinned (OpenSpec.upto monitorBlindSpec)

/-- 'donjonlaw13.MonitorChanges', WHERE WHAT IT READS IS OF BULK AT MOST 1048576: true; the input reads as it did. -/
def monitorChangesUptoRow : OpenClaim := { program := "ytmndeoncbocplaadoor", sum := "5dbcf43b1a62d1d7509059fb43bff28cfef8c03adf9e7dabfce00bb0c5dece03", func := "donjon/donjonlaw13.MonitorChanges", spec := "monitorChanges", inPlace := ["internal/bytealg.CountString", "internal/bytealg.IndexByteString", "internal/bytealg.IndexString"], unfollowed := true, recurses := true, named := ["unicode/utf8.first", "unicode/utf8.acceptRanges", "internal/bytealg.MaxLen"], apart := false, laid := [("unicode/utf8.acceptRanges", laid_unicode_utf8_acceptRanges), ("unicode/utf8.first", laid_unicode_utf8_first)], narrowed := true }
def MonitorChangesUptoSaid : Prop := monitorChangesUptoRow.holds Tryd.pinned (OpenSpec.upto monitorChangesSpec)

/-- 'donjonlaw11.TreeChecks', WHERE WHAT IT READS IS OF BULK AT MOST 1048576: true; the input reads as it did. -/
def treeChecksUptoRow : OpenClaim := { program := "ytmndeoncbocplaadoor", sum := "5dbcf43b1a62d1d7509059fb43bff28cfef8c03adf9e7dabfce00bb0c5dece03", func := "donjon/donjonlaw11.TreeChecks", spec := "treeChecks", inPlace := ["internal/bytealg.CountString", "internal/bytealg.IndexByteString", "internal/bytealg.IndexString"], unfollowed := true, recurses := true, named := ["internal/strconv.uint64pow10", "math/bits.deBruijn32tab", "math/bits.deBruijn64tab", "unicode/utf8.first", "unicode/utf8.acceptRanges", "internal/bytealg.MaxLen"], apart := false, laid := [("math/bits.deBruijn32tab", laid_math_bits_deBruijn32tab), ("math/bits.deBruijn64tab", laid_math_bits_deBruijn64tab), ("internal/strconv.uint64pow10", laid_internal_strconv_uint64pow10), ("unicode/utf8.acceptRanges", laid_unicode_utf8_acceptRanges), ("unicode/utf8.first", laid_unicode_utf8_first)], narrowed := true }
def TreeChecksUptoSaid : Prop := treeChecksUptoRow.holds Tryd.pinned (OpenSpec.upto treeChecksSpec)

/-- 'donjonlaw11.TreeUnders', WHERE WHAT IT READS IS OF BULK AT MOST 1048576: true; the input reads as it did. -/
def treeUndersUptoRow : OpenClaim := { program := "ytmndeoncbocplaadoor", sum := "5dbcf43b1a62d1d7509059fb43bff28cfef8c03adf9e7dabfce00bb0c5dece03", func := "donjon/donjonlaw11.TreeUnders", spec := "treeUnders", unfollowed := true, recurses := true, named := ["internal/strconv.uint64pow10", "math/bits.deBruijn32tab", "math/bits.deBruijn64tab"], apart := false, laid := [("math/bits.deBruijn32tab", laid_math_bits_deBruijn32tab), ("math/bits.deBruijn64tab", laid_math_bits_deBruijn64tab), ("internal/strconv.uint64pow10", laid_internal_strconv_uint64pow10)], narrowed := true }
def TreeUndersUptoSaid : Prop := treeUndersUptoRow.holds Tryd.pinned (OpenSpec.upto treeUndersSpec)

/-- 'donjonlaw11.TreeRises', WHERE WHAT IT READS IS OF BULK AT MOST 1048576: true; the input reads as it did. -/
def treeRisesUptoRow : OpenClaim := { program := "ytmndeoncbocplaadoor", sum := "5dbcf43b1a62d1d7509059fb43bff28cfef8c03adf9e7dabfce00bb0c5dece03", func := "donjon/donjonlaw11.TreeRises", spec := "treeRises", inPlace := ["internal/bytealg.CountString", "internal/bytealg.IndexByteString", "internal/bytealg.IndexString"], unfollowed := true, recurses := true, named := ["internal/strconv.uint64pow10", "math/bits.deBruijn32tab", "math/bits.deBruijn64tab", "unicode/utf8.first", "unicode/utf8.acceptRanges", "internal/bytealg.MaxLen"], apart := false, laid := [("math/bits.deBruijn32tab", laid_math_bits_deBruijn32tab), ("math/bits.deBruijn64tab", laid_math_bits_deBruijn64tab), ("internal/strconv.uint64pow10", laid_internal_strconv_uint64pow10), ("unicode/utf8.acceptRanges", laid_unicode_utf8_acceptRanges), ("unicode/utf8.first", laid_unicode_utf8_first)], narrowed := true }
def TreeRisesUptoSaid : Prop := treeRisesUptoRow.holds Tryd.pinned (OpenSpec.upto treeRisesSpec)

/-- 'donjonlaw11.TreeLabels', WHERE WHAT IT READS IS OF BULK AT MOST 1048576: true; the input reads as it did. -/
def treeLabelsUptoRow : OpenClaim := { program := "ytmndeoncbocplaadoor", sum := "5dbcf43b1a62d1d7509059fb43bff28cfef8c03adf9e7dabfce00bb0c5dece03", func := "donjon/donjonlaw11.TreeLabels", spec := "treeLabels", inPlace := ["slices.overlaps[donjon/api.Node]", "internal/bytealg.CountString", "internal/bytealg.IndexByteString", "internal/bytealg.IndexString"], unfollowed := true, recurses := true, named := ["internal/strconv.uint64pow10", "math/bits.deBruijn32tab", "math/bits.deBruijn64tab", "unicode/utf8.first", "unicode/utf8.acceptRanges", "internal/bytealg.MaxLen"], apart := false, laid := [("math/bits.deBruijn32tab", laid_math_bits_deBruijn32tab), ("math/bits.deBruijn64tab", laid_math_bits_deBruijn64tab), ("internal/strconv.uint64pow10", laid_internal_strconv_uint64pow10), ("unicode/utf8.acceptRanges", laid_unicode_utf8_acceptRanges), ("unicode/utf8.first", laid_unicode_utf8_first)], narrowed := true }
def TreeLabelsUptoSaid : Prop := treeLabelsUptoRow.holds Tryd.pinned (OpenSpec.upto treeLabelsSpec)

/-- 'donjonlaw11.TreePlays', WHERE WHAT IT READS IS OF BULK AT MOST 1048576: true; the input reads as it did. -/
def treePlaysUptoRow : OpenClaim := { program := "ytmndeoncbocplaadoor", sum := "5dbcf43b1a62d1d7509059fb43bff28cfef8c03adf9e7dabfce00bb0c5dece03", func := "donjon/donjonlaw11.TreePlays", spec := "treePlays", inPlace := ["slices.overlaps[donjon/api.Node]"], unfollowed := true, recurses := true, named := ["internal/strconv.uint64pow10", "math/bits.deBruijn32tab", "math/bits.deBruijn64tab"], apart := false, laid := [("math/bits.deBruijn32tab", laid_math_bits_deBruijn32tab), ("math/bits.deBruijn64tab", laid_math_bits_deBruijn64tab), ("internal/strconv.uint64pow10", laid_internal_strconv_uint64pow10)], narrowed := true }
def TreePlaysUptoSaid : Prop := treePlaysUptoRow.holds Tryd.pinned (OpenSpec.upto treePlaysSpec)

end Rows
end Go.Proofs.YtmndeoncbocplaaDoor

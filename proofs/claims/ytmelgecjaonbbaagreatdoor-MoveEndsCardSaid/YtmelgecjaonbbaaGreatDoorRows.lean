/-
  NARROWER THAN 'FOR EVERY INPUT', by the rows' own cells (each row's printed sentence says how): MoveLines: laid · MoveEnds: laid · BufferRuns: laid · BufferWhole: laid · BufferBacks: laid · BufferUnseen: laid · BufferTwo: laid · BufferKeeps: laid · BufferPlays: laid · BufferEnds: laid.
  DERIVED. THE GIVEN ROWS OF THIS SEAT. 10 by the template 'for every input the law returns true; each argument reads behind the call as it read before'; 0 by the template 'total and deterministic' (their statements: YtmelgecjaonbbaaGreatDoorTotals.lean).
  GIVEN WITH THE SEED: the statements are not yours to turn. If you find one false, say at which input.
  Laid BY PROGRAM, IN A SANDBOX (cutbox-rows.mjs): the forced cells as the released guide's own fill.sh prints them over the translation db7269861a6be064… (all of the seat's roots in one cut). By AI agents, Wed Nov 11 2026. No macro, syntax, notation, axiom, sorry.
-/
import Derived.Test.YtmelgecjaonbbaaGreatDoorChecked
import GoSem.PinnedTables
import GoSem.Claim
import GoSem.ClaimJoined
import GoSem.ClaimMapViews
import Derived.JoinedTies
import Derived.KernelRfl
namespace Go.Proofs.YtmelgecjaonbbaaGreatDoor
/- THE CELL 'sum', in the pinned program and in every row, IS THE sha256 OF THE DUMP (.gsa) THAT YtmelgecjaonbbaaGreatDoorProg.lean LOADS. Nothing in Lean hashes anything: it is a label: what it is worth is what the hold of that sum in a sandbox is worth. -/
noncomputable def Tryz.pinned : Pinned := { name := "ytmelgecjaonbbaagreatdoor", sum := "db7269861a6be064cc22b970f7574db8a28ae33f3d91d1e917d03f113c238d9b", checked := Tryz.checked }
namespace Rows
def none {H : Type} : Left H := { results := [], args := [] }

/- WHAT THE LISTED PACKAGE-LEVEL VARIABLES READ AS WHEN THE CALL BEGINS. Each datum BY PROGRAM (the guide's laid-datum.mjs) off the statement by which the dump's own 'gosem.cut.vars' lays the variable. In a bare row this is a premise. The card (YtmelgecjaonbbaaGreatDoorCards.lean) ties it to the program's text. -/
def laid_unicode_utf8_acceptRanges {H : Type} : DataW H := .agg [.agg [.lit (.int .u8 128), .lit (.int .u8 191)], .agg [.lit (.int .u8 160), .lit (.int .u8 191)], .agg [.lit (.int .u8 128), .lit (.int .u8 159)], .agg [.lit (.int .u8 144), .lit (.int .u8 191)], .agg [.lit (.int .u8 128), .lit (.int .u8 143)], .agg [.lit (.int .u8 0), .lit (.int .u8 0)], .agg [.lit (.int .u8 0), .lit (.int .u8 0)], .agg [.lit (.int .u8 0), .lit (.int .u8 0)], .agg [.lit (.int .u8 0), .lit (.int .u8 0)], .agg [.lit (.int .u8 0), .lit (.int .u8 0)], .agg [.lit (.int .u8 0), .lit (.int .u8 0)], .agg [.lit (.int .u8 0), .lit (.int .u8 0)], .agg [.lit (.int .u8 0), .lit (.int .u8 0)], .agg [.lit (.int .u8 0), .lit (.int .u8 0)], .agg [.lit (.int .u8 0), .lit (.int .u8 0)], .agg [.lit (.int .u8 0), .lit (.int .u8 0)]]
/-- One of Go's own tables, pinned by name: the form's constant. -/
def laid_unicode_utf8_first : DataW Unit := Go.Pinned.utf8First

/-- 'bodkinlaw16.MoveLines': WHATEVER THE INPUT: true; the input reads as it did. -/
def moveLinesSpec : ChangeSpec := { name := "moveLines", fn := fun _ => fun
  | [d1, d2, d3, d4] => { results := [.lit (.bool true)], args := [d1, d2, d3, d4] }
  | _ => none }
def moveLinesRow : OpenClaim := { program := "ytmelgecjaonbbaagreatdoor", sum := "db7269861a6be064cc22b970f7574db8a28ae33f3d91d1e917d03f113c238d9b", func := "bodkin/bodkinlaw16.MoveLines", spec := "moveLines", inPlace := ["internal/bytealg.CountString", "internal/bytealg.IndexByteString", "internal/bytealg.IndexString"], unfollowed := true, recurses := true, named := ["unicode/utf8.first", "unicode/utf8.acceptRanges", "internal/bytealg.MaxLen"], apart := false, laid := [("unicode/utf8.acceptRanges", laid_unicode_utf8_acceptRanges), ("unicode/utf8.first", laid_unicode_utf8_first)] }
def MoveLinesSaid : Prop := moveLinesRow.holds Tryz.pinned (OpenSpec.ofChange moveLinesSpec)

/-- ITS FALSE NEIGHBOUR: 'it returns false'. Refute it at one input. -/
def moveLinesWrong : ChangeSpec := { name := "moveLines", fn := fun _ => fun
  | [d1, d2, d3, d4] => { results := [.lit (.bool false)], args := [d1, d2, d3, d4] }
  | _ => none }
def MoveLinesWrongFalsely : Prop := moveLinesRow.holds Tryz.pinned (OpenSpec.ofChange moveLinesWrong)

/-- 'bodkinlaw16.MoveEnds': WHATEVER THE INPUT: true; the input reads as it did. -/
def moveEndsSpec : ChangeSpec := { name := "moveEnds", fn := fun _ => fun
  | [d1, d2, d3, d4, d5] => { results := [.lit (.bool true)], args := [d1, d2, d3, d4, d5] }
  | _ => none }
def moveEndsRow : OpenClaim := { program := "ytmelgecjaonbbaagreatdoor", sum := "db7269861a6be064cc22b970f7574db8a28ae33f3d91d1e917d03f113c238d9b", func := "bodkin/bodkinlaw16.MoveEnds", spec := "moveEnds", inPlace := ["internal/bytealg.CountString", "internal/bytealg.IndexByteString", "internal/bytealg.IndexString"], unfollowed := true, recurses := true, named := ["unicode/utf8.first", "unicode/utf8.acceptRanges", "internal/bytealg.MaxLen"], apart := false, laid := [("unicode/utf8.acceptRanges", laid_unicode_utf8_acceptRanges), ("unicode/utf8.first", laid_unicode_utf8_first)] }
def MoveEndsSaid : Prop := moveEndsRow.holds Tryz.pinned (OpenSpec.ofChange moveEndsSpec)

/-- ITS FALSE NEIGHBOUR: 'it returns false'. Refute it at one input. -/
def moveEndsWrong : ChangeSpec := { name := "moveEnds", fn := fun _ => fun
  | [d1, d2, d3, d4, d5] => { results := [.lit (.bool false)], args := [d1, d2, d3, d4, d5] }
  | _ => none }
def MoveEndsWrongFalsely : Prop := moveEndsRow.holds Tryz.pinned (OpenSpec.ofChange moveEndsWrong)

/-- 'bodkinlaw15.BufferRuns': WHATEVER THE INPUT: true; the input reads as it did. -/
def bufferRunsSpec : ChangeSpec := { name := "bufferRuns", fn := fun _ => fun
  | [d1, d2, d3] => { results := [.lit (.bool true)], args := [d1, d2, d3] }
  | _ => none }
def bufferRunsRow : OpenClaim := { program := "ytmelgecjaonbbaagreatdoor", sum := "db7269861a6be064cc22b970f7574db8a28ae33f3d91d1e917d03f113c238d9b", func := "bodkin/bodkinlaw15.BufferRuns", spec := "bufferRuns", inPlace := ["internal/bytealg.CountString", "internal/bytealg.IndexByteString", "internal/bytealg.IndexString", "internal/reflectlite.TypeOf"], unfollowed := true, recurses := true, named := ["unicode/utf8.first", "unicode/utf8.acceptRanges", "internal/bytealg.MaxLen"], apart := false, laid := [("unicode/utf8.acceptRanges", laid_unicode_utf8_acceptRanges), ("unicode/utf8.first", laid_unicode_utf8_first)] }
def BufferRunsSaid : Prop := bufferRunsRow.holds Tryz.pinned (OpenSpec.ofChange bufferRunsSpec)

/-- ITS FALSE NEIGHBOUR: 'it returns false'. Refute it at one input. -/
def bufferRunsWrong : ChangeSpec := { name := "bufferRuns", fn := fun _ => fun
  | [d1, d2, d3] => { results := [.lit (.bool false)], args := [d1, d2, d3] }
  | _ => none }
def BufferRunsWrongFalsely : Prop := bufferRunsRow.holds Tryz.pinned (OpenSpec.ofChange bufferRunsWrong)

/-- 'bodkinlaw15.BufferWhole': WHATEVER THE INPUT: true; the input reads as it did. -/
def bufferWholeSpec : ChangeSpec := { name := "bufferWhole", fn := fun _ => fun
  | [d1, d2] => { results := [.lit (.bool true)], args := [d1, d2] }
  | _ => none }
def bufferWholeRow : OpenClaim := { program := "ytmelgecjaonbbaagreatdoor", sum := "db7269861a6be064cc22b970f7574db8a28ae33f3d91d1e917d03f113c238d9b", func := "bodkin/bodkinlaw15.BufferWhole", spec := "bufferWhole", inPlace := ["internal/bytealg.CountString", "internal/bytealg.IndexByteString", "internal/bytealg.IndexString", "internal/reflectlite.TypeOf"], unfollowed := true, recurses := true, named := ["unicode/utf8.first", "unicode/utf8.acceptRanges", "internal/bytealg.MaxLen"], apart := false, laid := [("unicode/utf8.acceptRanges", laid_unicode_utf8_acceptRanges), ("unicode/utf8.first", laid_unicode_utf8_first)] }
def BufferWholeSaid : Prop := bufferWholeRow.holds Tryz.pinned (OpenSpec.ofChange bufferWholeSpec)

/-- ITS FALSE NEIGHBOUR: 'it returns false'. Refute it at one input. -/
def bufferWholeWrong : ChangeSpec := { name := "bufferWhole", fn := fun _ => fun
  | [d1, d2] => { results := [.lit (.bool false)], args := [d1, d2] }
  | _ => none }
def BufferWholeWrongFalsely : Prop := bufferWholeRow.holds Tryz.pinned (OpenSpec.ofChange bufferWholeWrong)

/-- 'bodkinlaw15.BufferBacks': WHATEVER THE INPUT: true; the input reads as it did. -/
def bufferBacksSpec : ChangeSpec := { name := "bufferBacks", fn := fun _ => fun
  | [d1, d2, d3] => { results := [.lit (.bool true)], args := [d1, d2, d3] }
  | _ => none }
def bufferBacksRow : OpenClaim := { program := "ytmelgecjaonbbaagreatdoor", sum := "db7269861a6be064cc22b970f7574db8a28ae33f3d91d1e917d03f113c238d9b", func := "bodkin/bodkinlaw15.BufferBacks", spec := "bufferBacks", inPlace := ["internal/bytealg.CountString", "internal/bytealg.IndexByteString", "internal/bytealg.IndexString", "internal/reflectlite.TypeOf"], unfollowed := true, recurses := true, named := ["unicode/utf8.first", "unicode/utf8.acceptRanges", "internal/bytealg.MaxLen"], apart := false, laid := [("unicode/utf8.acceptRanges", laid_unicode_utf8_acceptRanges), ("unicode/utf8.first", laid_unicode_utf8_first)] }
def BufferBacksSaid : Prop := bufferBacksRow.holds Tryz.pinned (OpenSpec.ofChange bufferBacksSpec)

/-- ITS FALSE NEIGHBOUR: 'it returns false'. Refute it at one input. -/
def bufferBacksWrong : ChangeSpec := { name := "bufferBacks", fn := fun _ => fun
  | [d1, d2, d3] => { results := [.lit (.bool false)], args := [d1, d2, d3] }
  | _ => none }
def BufferBacksWrongFalsely : Prop := bufferBacksRow.holds Tryz.pinned (OpenSpec.ofChange bufferBacksWrong)

/-- 'bodkinlaw15.BufferUnseen': WHATEVER THE INPUT: true; the input reads as it did. -/
def bufferUnseenSpec : ChangeSpec := { name := "bufferUnseen", fn := fun _ => fun
  | [d1, d2, d3, d4, d5] => { results := [.lit (.bool true)], args := [d1, d2, d3, d4, d5] }
  | _ => none }
def bufferUnseenRow : OpenClaim := { program := "ytmelgecjaonbbaagreatdoor", sum := "db7269861a6be064cc22b970f7574db8a28ae33f3d91d1e917d03f113c238d9b", func := "bodkin/bodkinlaw15.BufferUnseen", spec := "bufferUnseen", inPlace := ["internal/bytealg.CountString", "internal/bytealg.IndexByteString", "internal/bytealg.IndexString", "internal/reflectlite.TypeOf"], unfollowed := true, recurses := true, named := ["unicode/utf8.first", "unicode/utf8.acceptRanges", "internal/bytealg.MaxLen"], apart := false, laid := [("unicode/utf8.acceptRanges", laid_unicode_utf8_acceptRanges), ("unicode/utf8.first", laid_unicode_utf8_first)] }
def BufferUnseenSaid : Prop := bufferUnseenRow.holds Tryz.pinned (OpenSpec.ofChange bufferUnseenSpec)

/-- ITS FALSE NEIGHBOUR: 'it returns false'. Refute it at one input. -/
def bufferUnseenWrong : ChangeSpec := { name := "bufferUnseen", fn := fun _ => fun
  | [d1, d2, d3, d4, d5] => { results := [.lit (.bool false)], args := [d1, d2, d3, d4, d5] }
  | _ => none }
def BufferUnseenWrongFalsely : Prop := bufferUnseenRow.holds Tryz.pinned (OpenSpec.ofChange bufferUnseenWrong)

/-- 'bodkinlaw15.BufferTwo': WHATEVER THE INPUT: true; the input reads as it did. -/
def bufferTwoSpec : ChangeSpec := { name := "bufferTwo", fn := fun _ => fun
  | [d1, d2, d3, d4] => { results := [.lit (.bool true)], args := [d1, d2, d3, d4] }
  | _ => none }
def bufferTwoRow : OpenClaim := { program := "ytmelgecjaonbbaagreatdoor", sum := "db7269861a6be064cc22b970f7574db8a28ae33f3d91d1e917d03f113c238d9b", func := "bodkin/bodkinlaw15.BufferTwo", spec := "bufferTwo", inPlace := ["internal/bytealg.CountString", "internal/bytealg.IndexByteString", "internal/bytealg.IndexString", "internal/reflectlite.TypeOf"], unfollowed := true, recurses := true, named := ["unicode/utf8.first", "unicode/utf8.acceptRanges", "internal/bytealg.MaxLen"], apart := false, laid := [("unicode/utf8.acceptRanges", laid_unicode_utf8_acceptRanges), ("unicode/utf8.first", laid_unicode_utf8_first)] }
def BufferTwoSaid : Prop := bufferTwoRow.holds Tryz.pinned (OpenSpec.ofChange bufferTwoSpec)

/-- ITS FALSE NEIGHBOUR: 'it returns false'. Refute it at one input. -/
def bufferTwoWrong : ChangeSpec := { name := "bufferTwo", fn := fun _ => fun
  | [d1, d2, d3, d4] => { results := [.lit (.bool false)], args := [d1, d2, d3, d4] }
  | _ => none }
def BufferTwoWrongFalsely : Prop := bufferTwoRow.holds Tryz.pinned (OpenSpec.ofChange bufferTwoWrong)

/-- 'bodkinlaw15.BufferKeeps': WHATEVER THE INPUT: true; the input reads as it did. -/
def bufferKeepsSpec : ChangeSpec := { name := "bufferKeeps", fn := fun _ => fun
  | [d1, d2] => { results := [.lit (.bool true)], args := [d1, d2] }
  | _ => none }
def bufferKeepsRow : OpenClaim := { program := "ytmelgecjaonbbaagreatdoor", sum := "db7269861a6be064cc22b970f7574db8a28ae33f3d91d1e917d03f113c238d9b", func := "bodkin/bodkinlaw15.BufferKeeps", spec := "bufferKeeps", inPlace := ["internal/bytealg.CountString", "internal/bytealg.IndexByteString", "internal/bytealg.IndexString", "internal/reflectlite.TypeOf"], unfollowed := true, recurses := true, named := ["unicode/utf8.first", "unicode/utf8.acceptRanges", "internal/bytealg.MaxLen"], apart := false, laid := [("unicode/utf8.acceptRanges", laid_unicode_utf8_acceptRanges), ("unicode/utf8.first", laid_unicode_utf8_first)] }
def BufferKeepsSaid : Prop := bufferKeepsRow.holds Tryz.pinned (OpenSpec.ofChange bufferKeepsSpec)

/-- ITS FALSE NEIGHBOUR: 'it returns false'. Refute it at one input. -/
def bufferKeepsWrong : ChangeSpec := { name := "bufferKeeps", fn := fun _ => fun
  | [d1, d2] => { results := [.lit (.bool false)], args := [d1, d2] }
  | _ => none }
def BufferKeepsWrongFalsely : Prop := bufferKeepsRow.holds Tryz.pinned (OpenSpec.ofChange bufferKeepsWrong)

/-- 'bodkinlaw15.BufferPlays': WHATEVER THE INPUT: true; the input reads as it did. -/
def bufferPlaysSpec : ChangeSpec := { name := "bufferPlays", fn := fun _ => fun
  | [d1, d2] => { results := [.lit (.bool true)], args := [d1, d2] }
  | _ => none }
def bufferPlaysRow : OpenClaim := { program := "ytmelgecjaonbbaagreatdoor", sum := "db7269861a6be064cc22b970f7574db8a28ae33f3d91d1e917d03f113c238d9b", func := "bodkin/bodkinlaw15.BufferPlays", spec := "bufferPlays", inPlace := ["internal/bytealg.CountString", "internal/bytealg.IndexByteString", "internal/bytealg.IndexString", "internal/reflectlite.TypeOf"], unfollowed := true, recurses := true, named := ["unicode/utf8.first", "unicode/utf8.acceptRanges", "internal/bytealg.MaxLen"], apart := false, laid := [("unicode/utf8.acceptRanges", laid_unicode_utf8_acceptRanges), ("unicode/utf8.first", laid_unicode_utf8_first)] }
def BufferPlaysSaid : Prop := bufferPlaysRow.holds Tryz.pinned (OpenSpec.ofChange bufferPlaysSpec)

/-- ITS FALSE NEIGHBOUR: 'it returns false'. Refute it at one input. -/
def bufferPlaysWrong : ChangeSpec := { name := "bufferPlays", fn := fun _ => fun
  | [d1, d2] => { results := [.lit (.bool false)], args := [d1, d2] }
  | _ => none }
def BufferPlaysWrongFalsely : Prop := bufferPlaysRow.holds Tryz.pinned (OpenSpec.ofChange bufferPlaysWrong)

/-- 'bodkinlaw15.BufferEnds': WHATEVER THE INPUT: true; the input reads as it did. -/
def bufferEndsSpec : ChangeSpec := { name := "bufferEnds", fn := fun _ => fun
  | [d] => { results := [.lit (.bool true)], args := [d] }
  | _ => none }
def bufferEndsRow : OpenClaim := { program := "ytmelgecjaonbbaagreatdoor", sum := "db7269861a6be064cc22b970f7574db8a28ae33f3d91d1e917d03f113c238d9b", func := "bodkin/bodkinlaw15.BufferEnds", spec := "bufferEnds", inPlace := ["internal/bytealg.CountString", "internal/bytealg.IndexByteString", "internal/bytealg.IndexString", "internal/reflectlite.TypeOf"], unfollowed := true, recurses := true, named := ["unicode/utf8.first", "unicode/utf8.acceptRanges", "internal/bytealg.MaxLen"], apart := false, laid := [("unicode/utf8.acceptRanges", laid_unicode_utf8_acceptRanges), ("unicode/utf8.first", laid_unicode_utf8_first)] }
def BufferEndsSaid : Prop := bufferEndsRow.holds Tryz.pinned (OpenSpec.ofChange bufferEndsSpec)

/-- ITS FALSE NEIGHBOUR: 'it returns false'. Refute it at one input. -/
def bufferEndsWrong : ChangeSpec := { name := "bufferEnds", fn := fun _ => fun
  | [d] => { results := [.lit (.bool false)], args := [d] }
  | _ => none }
def BufferEndsWrongFalsely : Prop := bufferEndsRow.holds Tryz.pinned (OpenSpec.ofChange bufferEndsWrong)

/- THE SECOND FORM. 'bulk': how many values and letters a reading holds, each counted each time it is reached (what is shared counts as often as it is met; a slice's spare places count too). A statement '..UptoSaid' is the law's where the arguments, and the package variables that the reading takes, are together of bulk at most 1048576: NARROWER than '..Said'. Prove '..Said' where nothing that the law and all that it calls make is longer than what came in: it says more and counts as full. Else prove '..UptoSaid'. A law counts once. -/
mutual
def uptoBulk {H : Type} : DataW H → Nat
  | .lit (.string bytes) => bytes.length + 1
  | .lit _ => 1
  | .nil => 1
  | .ptr d => uptoBulk d + 1
  | .slice elems spare => uptoBulkAll elems + uptoBulkAll spare + 1
  | .agg parts => uptoBulkAll parts + 1
  | .iface _ d => uptoBulk d + 1
  | .map entries => uptoBulkEntries entries + 1
  | .held _ => 1
def uptoBulkAll {H : Type} : List (DataW H) → Nat
  | [] => 0
  | d :: r => uptoBulk d + uptoBulkAll r
def uptoBulkEntries {H : Type} : List (Lit × DataW H) → Nat
  | [] => 0
  | x :: r => uptoBulkEntry x + uptoBulkEntries r
def uptoBulkEntry {H : Type} : Lit × DataW H → Nat
  | (.string bytes, d) => bytes.length + uptoBulk d + 1
  | (_, d) => uptoBulk d + 1
 end
def uptoSmall : (H : Type) → List (DataW H) → Bool := fun _ ds => decide (uptoBulkAll ds ≤ 1048576)
def OpenSpec.upto (s : _root_.Go.ChangeSpec) : _root_.Go.OpenSpec := { _root_.Go.OpenSpec.ofChange s with cond := some uptoSmall }

/-- 'bodkinlaw16.MoveLines', WHERE WHAT IT READS IS OF BULK AT MOST 1048576: true; the input reads as it did. -/
def moveLinesUptoRow : OpenClaim := { program := "ytmelgecjaonbbaagreatdoor", sum := "db7269861a6be064cc22b970f7574db8a28ae33f3d91d1e917d03f113c238d9b", func := "bodkin/bodkinlaw16.MoveLines", spec := "moveLines", inPlace := ["internal/bytealg.CountString", "internal/bytealg.IndexByteString", "internal/bytealg.IndexString"], unfollowed := true, recurses := true, named := ["unicode/utf8.first", "unicode/utf8.acceptRanges", "internal/bytealg.MaxLen"], apart := false, laid := [("unicode/utf8.acceptRanges", laid_unicode_utf8_acceptRanges), ("unicode/utf8.first", laid_unicode_utf8_first)], narrowed := true }
def MoveLinesUptoSaid : Prop := moveLinesUptoRow.holds Tryz.pinned (OpenSpec.upto moveLinesSpec)

/-- 'bodkinlaw16.MoveEnds', WHERE WHAT IT READS IS OF BULK AT MOST 1048576: true; the input reads as it did. -/
def moveEndsUptoRow : OpenClaim := { program := "ytmelgecjaonbbaagreatdoor", sum := "db7269861a6be064cc22b970f7574db8a28ae33f3d91d1e917d03f113c238d9b", func := "bodkin/bodkinlaw16.MoveEnds", spec := "moveEnds", inPlace := ["internal/bytealg.CountString", "internal/bytealg.IndexByteString", "internal/bytealg.IndexString"], unfollowed := true, recurses := true, named := ["unicode/utf8.first", "unicode/utf8.acceptRanges", "internal/bytealg.MaxLen"], apart := false, laid := [("unicode/utf8.acceptRanges", laid_unicode_utf8_acceptRanges), ("unicode/utf8.first", laid_unicode_utf8_first)], narrowed := true }
def MoveEndsUptoSaid : Prop := moveEndsUptoRow.holds Tryz.pinned (OpenSpec.upto moveEndsSpec)

/-- 'bodkinlaw15.BufferRuns', WHERE WHAT IT READS IS OF BULK AT MOST 1048576: true; the input reads as it did. -/
def bufferRunsUptoRow : OpenClaim := { program := "ytmelgecjaonbbaagreatdoor", sum := "db7269861a6be064cc22b970f7574db8a28ae33f3d91d1e917d03f113c238d9b", func := "bodkin/bodkinlaw15.BufferRuns", spec := "bufferRuns", inPlace := ["internal/bytealg.CountString", "internal/bytealg.IndexByteString", "internal/bytealg.IndexString", "internal/reflectlite.TypeOf"], unfollowed := true, recurses := true, named := ["unicode/utf8.first", "unicode/utf8.acceptRanges", "internal/bytealg.MaxLen"], apart := false, laid := [("unicode/utf8.acceptRanges", laid_unicode_utf8_acceptRanges), ("unicode/utf8.first", laid_unicode_utf8_first)], narrowed := true }
def BufferRunsUptoSaid : Prop := bufferRunsUptoRow.holds Tryz.pinned (OpenSpec.upto bufferRunsSpec)

/-- 'bodkinlaw15.BufferWhole', WHERE WHAT IT READS IS OF BULK AT MOST 1048576: true; the input reads as it did. -/
def bufferWholeUptoRow : OpenClaim := { program := "ytmelgecjaonbbaagreatdoor", sum := "db7269861a6be064cc22b970f7574db8a28ae33f3d91d1e917d03f113c238d9b", func := "bodkin/bodkinlaw15.BufferWhole", spec := "bufferWhole", inPlace := ["internal/bytealg.CountString", "internal/bytealg.IndexByteString", "internal/bytealg.IndexString", "internal/reflectlite.TypeOf"], unfollowed := true, recurses := true, named := ["unicode/utf8.first", "unicode/utf8.acceptRanges", "internal/bytealg.MaxLen"], apart := false, laid := [("unicode/utf8.acceptRanges", laid_unicode_utf8_acceptRanges), ("unicode/utf8.first", laid_unicode_utf8_first)], narrowed := true }
def BufferWholeUptoSaid : Prop := bufferWholeUptoRow.holds Tryz.pinned (OpenSpec.upto bufferWholeSpec)

/-- 'bodkinlaw15.BufferBacks', WHERE WHAT IT READS IS OF BULK AT MOST 1048576: true; the input reads as it did. -/
def bufferBacksUptoRow : OpenClaim := { program := "ytmelgecjaonbbaagreatdoor", sum := "db7269861a6be064cc22b970f7574db8a28ae33f3d91d1e917d03f113c238d9b", func := "bodkin/bodkinlaw15.BufferBacks", spec := "bufferBacks", inPlace := ["internal/bytealg.CountString", "internal/bytealg.IndexByteString", "internal/bytealg.IndexString", "internal/reflectlite.TypeOf"], unfollowed := true, recurses := true, named := ["unicode/utf8.first", "unicode/utf8.acceptRanges", "internal/bytealg.MaxLen"], apart := false, laid := [("unicode/utf8.acceptRanges", laid_unicode_utf8_acceptRanges), ("unicode/utf8.first", laid_unicode_utf8_first)], narrowed := true }
def BufferBacksUptoSaid : Prop := bufferBacksUptoRow.holds Tryz.pinned (OpenSpec.upto bufferBacksSpec)

/-- 'bodkinlaw15.BufferUnseen', WHERE WHAT IT READS IS OF BULK AT MOST 1048576: true; the input reads as it did. -/
def bufferUnseenUptoRow : OpenClaim := { program := "ytmelgecjaonbbaagreatdoor", sum := "db7269861a6be064cc22b970f7574db8a28ae33f3d91d1e917d03f113c238d9b", func := "bodkin/bodkinlaw15.BufferUnseen", spec := "bufferUnseen", inPlace := ["internal/bytealg.CountString", "internal/bytealg.IndexByteString", "internal/bytealg.IndexString", "internal/reflectlite.TypeOf"], unfollowed := true, recurses := true, named := ["unicode/utf8.first", "unicode/utf8.acceptRanges", "internal/bytealg.MaxLen"], apart := false, laid := [("unicode/utf8.acceptRanges", laid_unicode_utf8_acceptRanges), ("unicode/utf8.first", laid_unicode_utf8_first)], narrowed := true }
def BufferUnseenUptoSaid : Prop := bufferUnseenUptoRow.holds Tryz.pinned (OpenSpec.upto bufferUnseenSpec)

/-- 'bodkinlaw15.BufferTwo', WHERE WHAT IT READS IS OF BULK AT MOST 1048576: true; the input reads as it did. -/
def bufferTwoUptoRow : OpenClaim := { program := "ytmelgecjaonbbaagreatdoor", sum := "db7269861a6be064cc22b970f7574db8a28ae33f3d91d1e917d03f113c238d9b", func := "bodkin/bodkinlaw15.BufferTwo", spec := "bufferTwo", inPlace := ["internal/bytealg.CountString", "internal/bytealg.IndexByteString", "internal/bytealg.IndexString", "internal/reflectlite.TypeOf"], unfollowed := true, recurses := true, named := ["unicode/utf8.first", "unicode/utf8.acceptRanges", "internal/bytealg.MaxLen"], apart := false, laid := [("unicode/utf8.acceptRanges", laid_unicode_utf8_acceptRanges), ("unicode/utf8.first", laid_unicode_utf8_first)], narrowed := true }
def BufferTwoUptoSaid : Prop := bufferTwoUptoRow.holds Tryz.pinned (OpenSpec.upto bufferTwoSpec)

/-- 'bodkinlaw15.BufferKeeps', WHERE WHAT IT READS IS OF BULK AT MOST 1048576: true; the input reads as it did. -/
def bufferKeepsUptoRow : OpenClaim := { program := "ytmelgecjaonbbaagreatdoor", sum := "db7269861a6be064cc22b970f7574db8a28ae33f3d91d1e917d03f113c238d9b", func := "bodkin/bodkinlaw15.BufferKeeps", spec := "bufferKeeps", inPlace := ["internal/bytealg.CountString", "internal/bytealg.IndexByteString", "internal/bytealg.IndexString", "internal/reflectlite.TypeOf"], unfollowed := true, recurses := true, named := ["unicode/utf8.first", "unicode/utf8.acceptRanges", "internal/bytealg.MaxLen"], apart := false, laid := [("unicode/utf8.acceptRanges", laid_unicode_utf8_acceptRanges), ("unicode/utf8.first", laid_unicode_utf8_first)], narrowed := true }
def BufferKeepsUptoSaid : Prop := bufferKeepsUptoRow.holds Tryz.pinned (OpenSpec.upto bufferKeepsSpec)

/-- 'bodkinlaw15.BufferPlays', WHERE WHAT IT READS IS OF BULK AT MOST 1048576: true; the input reads as it did. -/
def bufferPlaysUptoRow : OpenClaim := { program := "ytmelgecjaonbbaagreatdoor", sum := "db7269861a6be064cc22b970f7574db8a28ae33f3d91d1e917d03f113c238d9b", func := "bodkin/bodkinlaw15.BufferPlays", spec := "bufferPlays", inPlace := ["internal/bytealg.CountString", "internal/bytealg.IndexByteString", "internal/bytealg.IndexString", "internal/reflectlite.TypeOf"], unfollowed := true, recurses := true, named := ["unicode/utf8.first", "unicode/utf8.acceptRanges", "internal/bytealg.MaxLen"], apart := false, laid := [("unicode/utf8.acceptRanges", laid_unicode_utf8_acceptRanges), ("unicode/utf8.first", laid_unicode_utf8_first)], narrowed := true }
def BufferPlaysUptoSaid : Prop := bufferPlaysUptoRow.holds Tryz.pinned (OpenSpec.upto bufferPlaysSpec)

/-- 'bodkinlaw15.BufferEnds', WHERE WHAT IT READS IS OF BULK AT MOST 1048576: true; the input reads as it did. -/
def bufferEndsUptoRow : OpenClaim := { program := "ytmelgecjaonbbaagreatdoor", sum := "db7269861a6be064cc22b970f7574db8a28ae33f3d91d1e917d03f113c238d9b", func := "bodkin/bodkinlaw15.BufferEnds", spec := "bufferEnds", inPlace := ["internal/bytealg.CountString", "internal/bytealg.IndexByteString", "internal/bytealg.IndexString", "internal/reflectlite.TypeOf"], unfollowed := true, recurses := true, named := ["unicode/utf8.first", "unicode/utf8.acceptRanges", "internal/bytealg.MaxLen"], apart := false, laid := [("unicode/utf8.acceptRanges", laid_unicode_utf8_acceptRanges), ("unicode/utf8.first", laid_unicode_utf8_first)], narrowed := true }
def BufferEndsUptoSaid : Prop := bufferEndsUptoRow.holds Tryz.pinned (OpenSpec.upto bufferEndsSpec)

end Rows
end Go.Proofs.YtmelgecjaonbbaaGreatDoor

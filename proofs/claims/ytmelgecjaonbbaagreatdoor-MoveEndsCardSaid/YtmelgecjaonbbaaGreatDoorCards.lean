/-
  DERIVED. GIVEN WITH THE SEED: THE CARDS: each row of YtmelgecjaonbbaaGreatDoorRows.lean that lists a variable, with what it lists TIED to the program's text (the seventh form; the later family's looks); each row that meets fmt, with fmt's text TOLD by the authors' own Lean function (tested against real Go, not proved from fmt's source: count such statements apart). THE CARD IS WHAT COUNTS. Prove the row's statement (the work); the ties are given (YtmelgecjaonbbaaGreatDoorTie.lean); close each card by the builder's one call (the guide's Derived/Test/ToyasCard.lean, 'card_holds'). Laid BY PROGRAM, IN A SANDBOX (cutbox-door.mjs). By AI agents, Wed Nov 11 2026. No macro, syntax, notation, axiom, sorry.
-/
import Derived.Test.YtmelgecjaonbbaaGreatDoorRows
import GoSem.ClaimSeven
namespace Go.Proofs.YtmelgecjaonbbaaGreatDoor
namespace Rows

/-- THE TIED CARD OF 'bodkinlaw16.MoveLines'. -/
def moveLinesCard : Claim7 := { stood := { row := moveLinesRow, standIns := [], harness := (true, "1452d35cb8063886112e353bdad7017071197d5f6e728a0bb6db3e1ef2cfe80b"), looks := true }, kinds := [], alts := [], laidByText := true, laidKinds := [.data, .pinned], laidTests := true, laidLooks := .later }
def MoveLinesCardSaid : Prop := Claim7.holds Tryz.pinned (.plain (OpenSpec.ofChange moveLinesSpec)) moveLinesCard

/-- THE TIED CARD OF 'bodkinlaw16.MoveEnds'. -/
def moveEndsCard : Claim7 := { stood := { row := moveEndsRow, standIns := [], harness := (true, "1452d35cb8063886112e353bdad7017071197d5f6e728a0bb6db3e1ef2cfe80b"), looks := true }, kinds := [], alts := [], laidByText := true, laidKinds := [.data, .pinned], laidTests := true, laidLooks := .later }
def MoveEndsCardSaid : Prop := Claim7.holds Tryz.pinned (.plain (OpenSpec.ofChange moveEndsSpec)) moveEndsCard

/-- THE TIED CARD OF 'bodkinlaw15.BufferRuns'. -/
def bufferRunsCard : Claim7 := { stood := { row := bufferRunsRow, standIns := [], harness := (true, "1452d35cb8063886112e353bdad7017071197d5f6e728a0bb6db3e1ef2cfe80b"), looks := true }, kinds := [], alts := [], laidByText := true, laidKinds := [.data, .pinned], laidTests := true, laidLooks := .later }
def BufferRunsCardSaid : Prop := Claim7.holds Tryz.pinned (.plain (OpenSpec.ofChange bufferRunsSpec)) bufferRunsCard

/-- THE TIED CARD OF 'bodkinlaw15.BufferWhole'. -/
def bufferWholeCard : Claim7 := { stood := { row := bufferWholeRow, standIns := [], harness := (true, "1452d35cb8063886112e353bdad7017071197d5f6e728a0bb6db3e1ef2cfe80b"), looks := true }, kinds := [], alts := [], laidByText := true, laidKinds := [.data, .pinned], laidTests := true, laidLooks := .later }
def BufferWholeCardSaid : Prop := Claim7.holds Tryz.pinned (.plain (OpenSpec.ofChange bufferWholeSpec)) bufferWholeCard

/-- THE TIED CARD OF 'bodkinlaw15.BufferBacks'. -/
def bufferBacksCard : Claim7 := { stood := { row := bufferBacksRow, standIns := [], harness := (true, "1452d35cb8063886112e353bdad7017071197d5f6e728a0bb6db3e1ef2cfe80b"), looks := true }, kinds := [], alts := [], laidByText := true, laidKinds := [.data, .pinned], laidTests := true, laidLooks := .later }
def BufferBacksCardSaid : Prop := Claim7.holds Tryz.pinned (.plain (OpenSpec.ofChange bufferBacksSpec)) bufferBacksCard

/-- THE TIED CARD OF 'bodkinlaw15.BufferUnseen'. -/
def bufferUnseenCard : Claim7 := { stood := { row := bufferUnseenRow, standIns := [], harness := (true, "1452d35cb8063886112e353bdad7017071197d5f6e728a0bb6db3e1ef2cfe80b"), looks := true }, kinds := [], alts := [], laidByText := true, laidKinds := [.data, .pinned], laidTests := true, laidLooks := .later }
def BufferUnseenCardSaid : Prop := Claim7.holds Tryz.pinned (.plain (OpenSpec.ofChange bufferUnseenSpec)) bufferUnseenCard

/-- THE TIED CARD OF 'bodkinlaw15.BufferTwo'. -/
def bufferTwoCard : Claim7 := { stood := { row := bufferTwoRow, standIns := [], harness := (true, "1452d35cb8063886112e353bdad7017071197d5f6e728a0bb6db3e1ef2cfe80b"), looks := true }, kinds := [], alts := [], laidByText := true, laidKinds := [.data, .pinned], laidTests := true, laidLooks := .later }
def BufferTwoCardSaid : Prop := Claim7.holds Tryz.pinned (.plain (OpenSpec.ofChange bufferTwoSpec)) bufferTwoCard

/-- THE TIED CARD OF 'bodkinlaw15.BufferKeeps'. -/
def bufferKeepsCard : Claim7 := { stood := { row := bufferKeepsRow, standIns := [], harness := (true, "1452d35cb8063886112e353bdad7017071197d5f6e728a0bb6db3e1ef2cfe80b"), looks := true }, kinds := [], alts := [], laidByText := true, laidKinds := [.data, .pinned], laidTests := true, laidLooks := .later }
def BufferKeepsCardSaid : Prop := Claim7.holds Tryz.pinned (.plain (OpenSpec.ofChange bufferKeepsSpec)) bufferKeepsCard

/-- THE TIED CARD OF 'bodkinlaw15.BufferPlays'. -/
def bufferPlaysCard : Claim7 := { stood := { row := bufferPlaysRow, standIns := [], harness := (true, "1452d35cb8063886112e353bdad7017071197d5f6e728a0bb6db3e1ef2cfe80b"), looks := true }, kinds := [], alts := [], laidByText := true, laidKinds := [.data, .pinned], laidTests := true, laidLooks := .later }
def BufferPlaysCardSaid : Prop := Claim7.holds Tryz.pinned (.plain (OpenSpec.ofChange bufferPlaysSpec)) bufferPlaysCard

/-- THE TIED CARD OF 'bodkinlaw15.BufferEnds'. -/
def bufferEndsCard : Claim7 := { stood := { row := bufferEndsRow, standIns := [], harness := (true, "1452d35cb8063886112e353bdad7017071197d5f6e728a0bb6db3e1ef2cfe80b"), looks := true }, kinds := [], alts := [], laidByText := true, laidKinds := [.data, .pinned], laidTests := true, laidLooks := .later }
def BufferEndsCardSaid : Prop := Claim7.holds Tryz.pinned (.plain (OpenSpec.ofChange bufferEndsSpec)) bufferEndsCard

/-- THE SECOND FORM's CARD OF 'bodkinlaw16.MoveLines'. -/
def moveLinesUptoCard : Claim7 := { stood := { row := moveLinesUptoRow, standIns := [], harness := (true, "1452d35cb8063886112e353bdad7017071197d5f6e728a0bb6db3e1ef2cfe80b"), looks := true }, kinds := [], alts := [], laidByText := true, laidKinds := [.data, .pinned], laidTests := true, laidLooks := .later }
def MoveLinesUptoCardSaid : Prop := Claim7.holds Tryz.pinned (.plain (OpenSpec.upto moveLinesSpec)) moveLinesUptoCard

/-- THE SECOND FORM's CARD OF 'bodkinlaw16.MoveEnds'. -/
def moveEndsUptoCard : Claim7 := { stood := { row := moveEndsUptoRow, standIns := [], harness := (true, "1452d35cb8063886112e353bdad7017071197d5f6e728a0bb6db3e1ef2cfe80b"), looks := true }, kinds := [], alts := [], laidByText := true, laidKinds := [.data, .pinned], laidTests := true, laidLooks := .later }
def MoveEndsUptoCardSaid : Prop := Claim7.holds Tryz.pinned (.plain (OpenSpec.upto moveEndsSpec)) moveEndsUptoCard

/-- THE SECOND FORM's CARD OF 'bodkinlaw15.BufferRuns'. -/
def bufferRunsUptoCard : Claim7 := { stood := { row := bufferRunsUptoRow, standIns := [], harness := (true, "1452d35cb8063886112e353bdad7017071197d5f6e728a0bb6db3e1ef2cfe80b"), looks := true }, kinds := [], alts := [], laidByText := true, laidKinds := [.data, .pinned], laidTests := true, laidLooks := .later }
def BufferRunsUptoCardSaid : Prop := Claim7.holds Tryz.pinned (.plain (OpenSpec.upto bufferRunsSpec)) bufferRunsUptoCard

/-- THE SECOND FORM's CARD OF 'bodkinlaw15.BufferWhole'. -/
def bufferWholeUptoCard : Claim7 := { stood := { row := bufferWholeUptoRow, standIns := [], harness := (true, "1452d35cb8063886112e353bdad7017071197d5f6e728a0bb6db3e1ef2cfe80b"), looks := true }, kinds := [], alts := [], laidByText := true, laidKinds := [.data, .pinned], laidTests := true, laidLooks := .later }
def BufferWholeUptoCardSaid : Prop := Claim7.holds Tryz.pinned (.plain (OpenSpec.upto bufferWholeSpec)) bufferWholeUptoCard

/-- THE SECOND FORM's CARD OF 'bodkinlaw15.BufferBacks'. -/
def bufferBacksUptoCard : Claim7 := { stood := { row := bufferBacksUptoRow, standIns := [], harness := (true, "1452d35cb8063886112e353bdad7017071197d5f6e728a0bb6db3e1ef2cfe80b"), looks := true }, kinds := [], alts := [], laidByText := true, laidKinds := [.data, .pinned], laidTests := true, laidLooks := .later }
def BufferBacksUptoCardSaid : Prop := Claim7.holds Tryz.pinned (.plain (OpenSpec.upto bufferBacksSpec)) bufferBacksUptoCard

/-- THE SECOND FORM's CARD OF 'bodkinlaw15.BufferUnseen'. -/
def bufferUnseenUptoCard : Claim7 := { stood := { row := bufferUnseenUptoRow, standIns := [], harness := (true, "1452d35cb8063886112e353bdad7017071197d5f6e728a0bb6db3e1ef2cfe80b"), looks := true }, kinds := [], alts := [], laidByText := true, laidKinds := [.data, .pinned], laidTests := true, laidLooks := .later }
def BufferUnseenUptoCardSaid : Prop := Claim7.holds Tryz.pinned (.plain (OpenSpec.upto bufferUnseenSpec)) bufferUnseenUptoCard

/-- THE SECOND FORM's CARD OF 'bodkinlaw15.BufferTwo'. -/
def bufferTwoUptoCard : Claim7 := { stood := { row := bufferTwoUptoRow, standIns := [], harness := (true, "1452d35cb8063886112e353bdad7017071197d5f6e728a0bb6db3e1ef2cfe80b"), looks := true }, kinds := [], alts := [], laidByText := true, laidKinds := [.data, .pinned], laidTests := true, laidLooks := .later }
def BufferTwoUptoCardSaid : Prop := Claim7.holds Tryz.pinned (.plain (OpenSpec.upto bufferTwoSpec)) bufferTwoUptoCard

/-- THE SECOND FORM's CARD OF 'bodkinlaw15.BufferKeeps'. -/
def bufferKeepsUptoCard : Claim7 := { stood := { row := bufferKeepsUptoRow, standIns := [], harness := (true, "1452d35cb8063886112e353bdad7017071197d5f6e728a0bb6db3e1ef2cfe80b"), looks := true }, kinds := [], alts := [], laidByText := true, laidKinds := [.data, .pinned], laidTests := true, laidLooks := .later }
def BufferKeepsUptoCardSaid : Prop := Claim7.holds Tryz.pinned (.plain (OpenSpec.upto bufferKeepsSpec)) bufferKeepsUptoCard

/-- THE SECOND FORM's CARD OF 'bodkinlaw15.BufferPlays'. -/
def bufferPlaysUptoCard : Claim7 := { stood := { row := bufferPlaysUptoRow, standIns := [], harness := (true, "1452d35cb8063886112e353bdad7017071197d5f6e728a0bb6db3e1ef2cfe80b"), looks := true }, kinds := [], alts := [], laidByText := true, laidKinds := [.data, .pinned], laidTests := true, laidLooks := .later }
def BufferPlaysUptoCardSaid : Prop := Claim7.holds Tryz.pinned (.plain (OpenSpec.upto bufferPlaysSpec)) bufferPlaysUptoCard

/-- THE SECOND FORM's CARD OF 'bodkinlaw15.BufferEnds'. -/
def bufferEndsUptoCard : Claim7 := { stood := { row := bufferEndsUptoRow, standIns := [], harness := (true, "1452d35cb8063886112e353bdad7017071197d5f6e728a0bb6db3e1ef2cfe80b"), looks := true }, kinds := [], alts := [], laidByText := true, laidKinds := [.data, .pinned], laidTests := true, laidLooks := .later }
def BufferEndsUptoCardSaid : Prop := Claim7.holds Tryz.pinned (.plain (OpenSpec.upto bufferEndsSpec)) bufferEndsUptoCard
end Rows
end Go.Proofs.YtmelgecjaonbbaaGreatDoor

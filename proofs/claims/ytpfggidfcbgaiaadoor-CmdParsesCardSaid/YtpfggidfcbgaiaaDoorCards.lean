/-
  DERIVED. GIVEN WITH THE SEED: THE CARDS: each row of YtpfggidfcbgaiaaDoorRows.lean that lists a variable, with what it lists TIED to the program's text (the seventh form; the later family's looks); each row that meets fmt, with fmt's text TOLD by the authors' own Lean function (tested against real Go, not proved from fmt's source: count such statements apart). THE CARD IS WHAT COUNTS. Prove the row's statement (the work); the ties are given (YtpfggidfcbgaiaaDoorTie.lean); close each card by the builder's one call (the guide's Derived/Test/ToyasCard.lean, 'card_holds'). Laid BY PROGRAM, IN A SANDBOX (cutbox-door.mjs). By AI agents, Wed Nov 11 2026. No macro, syntax, notation, axiom, sorry.
-/
import Derived.Test.YtpfggidfcbgaiaaDoorRows
import GoSem.ClaimSeven
namespace Go.Proofs.YtpfggidfcbgaiaaDoor
namespace Rows

/-- THE TIED CARD OF 'tattlerlaw07.CmdParses'. -/
def cmdParsesCard : Claim7 := { stood := { row := cmdParsesRow, standIns := [], harness := (true, "fb96c7366a1d79d1e13097a87e9589ff7f04bb802e0345d0f2be6f54ba412994"), looks := false }, kinds := [], alts := [], laidByText := true, laidKinds := [.data, .pinned], laidTests := true, laidLooks := .later }
def CmdParsesCardSaid : Prop := Claim7.holds Tryd.pinned (.plain (OpenSpec.ofChange cmdParsesSpec)) cmdParsesCard

/-- THE TIED CARD OF 'tattlerlaw07.CmdBlanks'. -/
def cmdBlanksCard : Claim7 := { stood := { row := cmdBlanksRow, standIns := [], harness := (true, "fb96c7366a1d79d1e13097a87e9589ff7f04bb802e0345d0f2be6f54ba412994"), looks := false }, kinds := [], alts := [], laidByText := true, laidKinds := [.data, .pinned], laidTests := true, laidLooks := .later }
def CmdBlanksCardSaid : Prop := Claim7.holds Tryd.pinned (.plain (OpenSpec.ofChange cmdBlanksSpec)) cmdBlanksCard

/-- THE TIED CARD OF 'tattlerlaw07.CmdRight'. -/
def cmdRightCard : Claim7 := { stood := { row := cmdRightRow, standIns := [], harness := (true, "fb96c7366a1d79d1e13097a87e9589ff7f04bb802e0345d0f2be6f54ba412994"), looks := false }, kinds := [], alts := [], laidByText := true, laidKinds := [.data, .pinned], laidTests := true, laidLooks := .later }
def CmdRightCardSaid : Prop := Claim7.holds Tryd.pinned (.plain (OpenSpec.ofChange cmdRightSpec)) cmdRightCard

/-- THE TIED CARD OF 'tattlerlaw07.CmdSets'. -/
def cmdSetsCard : Claim7 := { stood := { row := cmdSetsRow, standIns := [], harness := (true, "fb96c7366a1d79d1e13097a87e9589ff7f04bb802e0345d0f2be6f54ba412994"), looks := false }, kinds := [], alts := [], laidByText := true, laidKinds := [.data, .pinned], laidTests := true, laidLooks := .later }
def CmdSetsCardSaid : Prop := Claim7.holds Tryd.pinned (.plain (OpenSpec.ofChange cmdSetsSpec)) cmdSetsCard

/-- THE TIED CARD OF 'tattlerlaw07.CmdNoreply'. -/
def cmdNoreplyCard : Claim7 := { stood := { row := cmdNoreplyRow, standIns := [], harness := (true, "fb96c7366a1d79d1e13097a87e9589ff7f04bb802e0345d0f2be6f54ba412994"), looks := false }, kinds := [], alts := [], laidByText := true, laidKinds := [.data, .pinned], laidTests := true, laidLooks := .later }
def CmdNoreplyCardSaid : Prop := Claim7.holds Tryd.pinned (.plain (OpenSpec.ofChange cmdNoreplySpec)) cmdNoreplyCard

/-- THE SECOND FORM's CARD OF 'tattlerlaw07.CmdParses'. -/
def cmdParsesUptoCard : Claim7 := { stood := { row := cmdParsesUptoRow, standIns := [], harness := (true, "fb96c7366a1d79d1e13097a87e9589ff7f04bb802e0345d0f2be6f54ba412994"), looks := false }, kinds := [], alts := [], laidByText := true, laidKinds := [.data, .pinned], laidTests := true, laidLooks := .later }
def CmdParsesUptoCardSaid : Prop := Claim7.holds Tryd.pinned (.plain (OpenSpec.upto cmdParsesSpec)) cmdParsesUptoCard

/-- THE SECOND FORM's CARD OF 'tattlerlaw07.CmdBlanks'. -/
def cmdBlanksUptoCard : Claim7 := { stood := { row := cmdBlanksUptoRow, standIns := [], harness := (true, "fb96c7366a1d79d1e13097a87e9589ff7f04bb802e0345d0f2be6f54ba412994"), looks := false }, kinds := [], alts := [], laidByText := true, laidKinds := [.data, .pinned], laidTests := true, laidLooks := .later }
def CmdBlanksUptoCardSaid : Prop := Claim7.holds Tryd.pinned (.plain (OpenSpec.upto cmdBlanksSpec)) cmdBlanksUptoCard

/-- THE SECOND FORM's CARD OF 'tattlerlaw07.CmdRight'. -/
def cmdRightUptoCard : Claim7 := { stood := { row := cmdRightUptoRow, standIns := [], harness := (true, "fb96c7366a1d79d1e13097a87e9589ff7f04bb802e0345d0f2be6f54ba412994"), looks := false }, kinds := [], alts := [], laidByText := true, laidKinds := [.data, .pinned], laidTests := true, laidLooks := .later }
def CmdRightUptoCardSaid : Prop := Claim7.holds Tryd.pinned (.plain (OpenSpec.upto cmdRightSpec)) cmdRightUptoCard

/-- THE SECOND FORM's CARD OF 'tattlerlaw07.CmdSets'. -/
def cmdSetsUptoCard : Claim7 := { stood := { row := cmdSetsUptoRow, standIns := [], harness := (true, "fb96c7366a1d79d1e13097a87e9589ff7f04bb802e0345d0f2be6f54ba412994"), looks := false }, kinds := [], alts := [], laidByText := true, laidKinds := [.data, .pinned], laidTests := true, laidLooks := .later }
def CmdSetsUptoCardSaid : Prop := Claim7.holds Tryd.pinned (.plain (OpenSpec.upto cmdSetsSpec)) cmdSetsUptoCard

/-- THE SECOND FORM's CARD OF 'tattlerlaw07.CmdNoreply'. -/
def cmdNoreplyUptoCard : Claim7 := { stood := { row := cmdNoreplyUptoRow, standIns := [], harness := (true, "fb96c7366a1d79d1e13097a87e9589ff7f04bb802e0345d0f2be6f54ba412994"), looks := false }, kinds := [], alts := [], laidByText := true, laidKinds := [.data, .pinned], laidTests := true, laidLooks := .later }
def CmdNoreplyUptoCardSaid : Prop := Claim7.holds Tryd.pinned (.plain (OpenSpec.upto cmdNoreplySpec)) cmdNoreplyUptoCard
end Rows
end Go.Proofs.YtpfggidfcbgaiaaDoor

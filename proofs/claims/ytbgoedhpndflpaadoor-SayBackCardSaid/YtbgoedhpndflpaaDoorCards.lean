/-
  DERIVED. GIVEN WITH THE SEED: THE CARDS: each row of YtbgoedhpndflpaaDoorRows.lean that lists a variable, with what it lists TIED to the program's text (the seventh form; the later family's looks); each row that meets fmt, with fmt's text TOLD by the authors' own Lean function (tested against real Go, not proved from fmt's source: count such statements apart). THE CARD IS WHAT COUNTS. Prove the row's statement (the work); the ties are given (YtbgoedhpndflpaaDoorTie.lean); close each card by the builder's one call (the guide's Derived/Test/ToyasCard.lean, 'card_holds'). Laid BY PROGRAM, IN A SANDBOX (cutbox-door.mjs). By AI agents, Wed Nov 11 2026. No macro, syntax, notation, axiom, sorry.
-/
import Derived.Test.YtbgoedhpndflpaaDoorRows
import GoSem.ClaimSeven
namespace Go.Proofs.YtbgoedhpndflpaaDoor
namespace Rows

/-- THE TIED CARD OF 'tattlerlaw09.SayBack'. -/
def sayBackCard : Claim7 := { stood := { row := sayBackRow, standIns := [], harness := (true, "505b43bb523a65f10b93f2a0f40307ad1a700379e396802d4d2daf1a9c615b18"), looks := false }, kinds := [], alts := [], laidByText := true, laidKinds := [.data, .data, .data, .data, .pinned], laidTests := true, laidLooks := .later }
def SayBackCardSaid : Prop := Claim7.holds Tryd.pinned (.plain (OpenSpec.ofChange sayBackSpec)) sayBackCard

/-- THE TIED CARD OF 'tattlerlaw09.SayEach'. -/
def sayEachCard : Claim7 := { stood := { row := sayEachRow, standIns := [], harness := (true, "505b43bb523a65f10b93f2a0f40307ad1a700379e396802d4d2daf1a9c615b18"), looks := false }, kinds := [], alts := [], laidByText := true, laidKinds := [.data, .data, .data, .data, .pinned], laidTests := true, laidLooks := .later }
def SayEachCardSaid : Prop := Claim7.holds Tryd.pinned (.plain (OpenSpec.ofChange sayEachSpec)) sayEachCard

/-- THE TIED CARD OF 'tattlerlaw09.SaySays'. -/
def saySaysCard : Claim7 := { stood := { row := saySaysRow, standIns := [], harness := (true, "505b43bb523a65f10b93f2a0f40307ad1a700379e396802d4d2daf1a9c615b18"), looks := false }, kinds := [], alts := [], laidByText := true, laidKinds := [.data, .data, .data, .data, .pinned], laidTests := true, laidLooks := .later }
def SaySaysCardSaid : Prop := Claim7.holds Tryd.pinned (.plain (OpenSpec.ofChange saySaysSpec)) saySaysCard

/-- THE SECOND FORM's CARD OF 'tattlerlaw09.SayBack'. -/
def sayBackUptoCard : Claim7 := { stood := { row := sayBackUptoRow, standIns := [], harness := (true, "505b43bb523a65f10b93f2a0f40307ad1a700379e396802d4d2daf1a9c615b18"), looks := false }, kinds := [], alts := [], laidByText := true, laidKinds := [.data, .data, .data, .data, .pinned], laidTests := true, laidLooks := .later }
def SayBackUptoCardSaid : Prop := Claim7.holds Tryd.pinned (.plain (OpenSpec.upto sayBackSpec)) sayBackUptoCard

/-- THE SECOND FORM's CARD OF 'tattlerlaw09.SayEach'. -/
def sayEachUptoCard : Claim7 := { stood := { row := sayEachUptoRow, standIns := [], harness := (true, "505b43bb523a65f10b93f2a0f40307ad1a700379e396802d4d2daf1a9c615b18"), looks := false }, kinds := [], alts := [], laidByText := true, laidKinds := [.data, .data, .data, .data, .pinned], laidTests := true, laidLooks := .later }
def SayEachUptoCardSaid : Prop := Claim7.holds Tryd.pinned (.plain (OpenSpec.upto sayEachSpec)) sayEachUptoCard

/-- THE SECOND FORM's CARD OF 'tattlerlaw09.SaySays'. -/
def saySaysUptoCard : Claim7 := { stood := { row := saySaysUptoRow, standIns := [], harness := (true, "505b43bb523a65f10b93f2a0f40307ad1a700379e396802d4d2daf1a9c615b18"), looks := false }, kinds := [], alts := [], laidByText := true, laidKinds := [.data, .data, .data, .data, .pinned], laidTests := true, laidLooks := .later }
def SaySaysUptoCardSaid : Prop := Claim7.holds Tryd.pinned (.plain (OpenSpec.upto saySaysSpec)) saySaysUptoCard
end Rows
end Go.Proofs.YtbgoedhpndflpaaDoor

/-
  DERIVED. GIVEN WITH THE SEED: THE CARDS: each row of YthinmioognadpaaDoorRows.lean that lists a variable, with what it lists TIED to the program's text (the seventh form; the later family's looks); each row that meets fmt, with fmt's text TOLD by the authors' own Lean function (tested against real Go, not proved from fmt's source: count such statements apart). THE CARD IS WHAT COUNTS. Prove the row's statement (the work); the ties are given (YthinmioognadpaaDoorTie.lean); close each card by the builder's one call (the guide's Derived/Test/ToyasCard.lean, 'card_holds'). Laid BY PROGRAM, IN A SANDBOX (cutbox-door.mjs). By AI agents, Wed Nov 11 2026. No macro, syntax, notation, axiom, sorry.
-/
import Derived.Test.YthinmioognadpaaDoorRows
import GoSem.ClaimSeven
namespace Go.Proofs.YthinmioognadpaaDoor
namespace Rows

/-- THE TIED CARD OF 'tattlerlaw08.FeedOn'. -/
def feedOnCard : Claim7 := { stood := { row := feedOnRow, standIns := [], harness := (true, "1f6676555d01d7ee355043764bc4d70551fdda772c50bc1c0556d2792320fa8e"), looks := false }, kinds := [], alts := [], laidByText := true, laidKinds := [.data, .pinned], laidTests := true, laidLooks := .later }
def FeedOnCardSaid : Prop := Claim7.holds Tryd.pinned (.plain (OpenSpec.ofChange feedOnSpec)) feedOnCard

/-- THE TIED CARD OF 'tattlerlaw08.FeedBytes'. -/
def feedBytesCard : Claim7 := { stood := { row := feedBytesRow, standIns := [], harness := (true, "1f6676555d01d7ee355043764bc4d70551fdda772c50bc1c0556d2792320fa8e"), looks := false }, kinds := [], alts := [], laidByText := true, laidKinds := [.data, .pinned], laidTests := true, laidLooks := .later }
def FeedBytesCardSaid : Prop := Claim7.holds Tryd.pinned (.plain (OpenSpec.ofChange feedBytesSpec)) feedBytesCard

/-- THE TIED CARD OF 'tattlerlaw08.FeedBounded'. -/
def feedBoundedCard : Claim7 := { stood := { row := feedBoundedRow, standIns := [], harness := (true, "1f6676555d01d7ee355043764bc4d70551fdda772c50bc1c0556d2792320fa8e"), looks := false }, kinds := [], alts := [], laidByText := true, laidKinds := [.data, .pinned], laidTests := true, laidLooks := .later }
def FeedBoundedCardSaid : Prop := Claim7.holds Tryd.pinned (.plain (OpenSpec.ofChange feedBoundedSpec)) feedBoundedCard

/-- THE TIED CARD OF 'tattlerlaw08.FeedData'. -/
def feedDataCard : Claim7 := { stood := { row := feedDataRow, standIns := [], harness := (true, "1f6676555d01d7ee355043764bc4d70551fdda772c50bc1c0556d2792320fa8e"), looks := false }, kinds := [], alts := [], laidByText := true, laidKinds := [.data, .pinned], laidTests := true, laidLooks := .later }
def FeedDataCardSaid : Prop := Claim7.holds Tryd.pinned (.plain (OpenSpec.ofChange feedDataSpec)) feedDataCard

/-- THE SECOND FORM's CARD OF 'tattlerlaw08.FeedOn'. -/
def feedOnUptoCard : Claim7 := { stood := { row := feedOnUptoRow, standIns := [], harness := (true, "1f6676555d01d7ee355043764bc4d70551fdda772c50bc1c0556d2792320fa8e"), looks := false }, kinds := [], alts := [], laidByText := true, laidKinds := [.data, .pinned], laidTests := true, laidLooks := .later }
def FeedOnUptoCardSaid : Prop := Claim7.holds Tryd.pinned (.plain (OpenSpec.upto feedOnSpec)) feedOnUptoCard

/-- THE SECOND FORM's CARD OF 'tattlerlaw08.FeedBytes'. -/
def feedBytesUptoCard : Claim7 := { stood := { row := feedBytesUptoRow, standIns := [], harness := (true, "1f6676555d01d7ee355043764bc4d70551fdda772c50bc1c0556d2792320fa8e"), looks := false }, kinds := [], alts := [], laidByText := true, laidKinds := [.data, .pinned], laidTests := true, laidLooks := .later }
def FeedBytesUptoCardSaid : Prop := Claim7.holds Tryd.pinned (.plain (OpenSpec.upto feedBytesSpec)) feedBytesUptoCard

/-- THE SECOND FORM's CARD OF 'tattlerlaw08.FeedBounded'. -/
def feedBoundedUptoCard : Claim7 := { stood := { row := feedBoundedUptoRow, standIns := [], harness := (true, "1f6676555d01d7ee355043764bc4d70551fdda772c50bc1c0556d2792320fa8e"), looks := false }, kinds := [], alts := [], laidByText := true, laidKinds := [.data, .pinned], laidTests := true, laidLooks := .later }
def FeedBoundedUptoCardSaid : Prop := Claim7.holds Tryd.pinned (.plain (OpenSpec.upto feedBoundedSpec)) feedBoundedUptoCard

/-- THE SECOND FORM's CARD OF 'tattlerlaw08.FeedData'. -/
def feedDataUptoCard : Claim7 := { stood := { row := feedDataUptoRow, standIns := [], harness := (true, "1f6676555d01d7ee355043764bc4d70551fdda772c50bc1c0556d2792320fa8e"), looks := false }, kinds := [], alts := [], laidByText := true, laidKinds := [.data, .pinned], laidTests := true, laidLooks := .later }
def FeedDataUptoCardSaid : Prop := Claim7.holds Tryd.pinned (.plain (OpenSpec.upto feedDataSpec)) feedDataUptoCard
end Rows
end Go.Proofs.YthinmioognadpaaDoor

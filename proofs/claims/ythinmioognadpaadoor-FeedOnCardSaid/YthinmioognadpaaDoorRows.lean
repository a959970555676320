/-
  NARROWER THAN 'FOR EVERY INPUT', by the rows' own cells (each row's printed sentence says how): FeedOn: laid · FeedBytes: laid · FeedBounded: laid · FeedData: laid.
  DERIVED. THE GIVEN ROWS OF THIS SEAT. 4 by the template 'for every input the law returns true; each argument reads behind the call as it read before'; 0 by the template 'total and deterministic' (their statements: YthinmioognadpaaDoorTotals.lean).
  GIVEN WITH THE SEED: the statements are not yours to turn. If you find one false, say at which input.
  Laid BY PROGRAM, IN A SANDBOX (cutbox-rows.mjs): the forced cells as the released guide's own fill.sh prints them over the translation 3ec9d0ab787cca07… (all of the seat's roots in one cut). By AI agents, Wed Nov 11 2026. No macro, syntax, notation, axiom, sorry.
-/
import Derived.Test.YthinmioognadpaaDoorChecked
import GoSem.PinnedTables
import GoSem.Claim
import GoSem.ClaimJoined
import GoSem.ClaimMapViews
import Derived.JoinedTies
import Derived.KernelRfl
namespace Go.Proofs.YthinmioognadpaaDoor
/- THE CELL 'sum', in the pinned program and in every row, IS THE sha256 OF THE DUMP (.gsa) THAT YthinmioognadpaaDoorProg.lean LOADS. Nothing in Lean hashes anything: it is a label: what it is worth is what the hold of that sum in a sandbox is worth. -/
noncomputable def Tryd.pinned : Pinned := { name := "ythinmioognadpaadoor", sum := "3ec9d0ab787cca072b22bbc0de7edeeafbce7b4287610419dc057a448b632f8f", checked := Tryd.checked }
namespace Rows
def none {H : Type} : Left H := { results := [], args := [] }

/- WHAT THE LISTED PACKAGE-LEVEL VARIABLES READ AS WHEN THE CALL BEGINS. Each datum BY PROGRAM (the guide's laid-datum.mjs) off the statement by which the dump's own 'gosem.cut.vars' lays the variable. In a bare row this is a premise. The card (YthinmioognadpaaDoorCards.lean) ties it to the program's text. -/
def laid_unicode_utf8_acceptRanges {H : Type} : DataW H := .agg [.agg [.lit (.int .u8 128), .lit (.int .u8 191)], .agg [.lit (.int .u8 160), .lit (.int .u8 191)], .agg [.lit (.int .u8 128), .lit (.int .u8 159)], .agg [.lit (.int .u8 144), .lit (.int .u8 191)], .agg [.lit (.int .u8 128), .lit (.int .u8 143)], .agg [.lit (.int .u8 0), .lit (.int .u8 0)], .agg [.lit (.int .u8 0), .lit (.int .u8 0)], .agg [.lit (.int .u8 0), .lit (.int .u8 0)], .agg [.lit (.int .u8 0), .lit (.int .u8 0)], .agg [.lit (.int .u8 0), .lit (.int .u8 0)], .agg [.lit (.int .u8 0), .lit (.int .u8 0)], .agg [.lit (.int .u8 0), .lit (.int .u8 0)], .agg [.lit (.int .u8 0), .lit (.int .u8 0)], .agg [.lit (.int .u8 0), .lit (.int .u8 0)], .agg [.lit (.int .u8 0), .lit (.int .u8 0)], .agg [.lit (.int .u8 0), .lit (.int .u8 0)]]
/-- One of Go's own tables, pinned by name: the form's constant. -/
def laid_unicode_utf8_first : DataW Unit := Go.Pinned.utf8First

/-- 'tattlerlaw08.FeedOn': WHATEVER THE INPUT: true; the input reads as it did. -/
def feedOnSpec : ChangeSpec := { name := "feedOn", fn := fun _ => fun
  | [d1, d2] => { results := [.lit (.bool true)], args := [d1, d2] }
  | _ => none }
def feedOnRow : OpenClaim := { program := "ythinmioognadpaadoor", sum := "3ec9d0ab787cca072b22bbc0de7edeeafbce7b4287610419dc057a448b632f8f", func := "tattler/tattlerlaw08.FeedOn", spec := "feedOn", inPlace := ["internal/bytealg.CountString", "internal/bytealg.IndexByteString", "internal/bytealg.IndexString"], unfollowed := true, recurses := true, named := ["unicode/utf8.first", "unicode/utf8.acceptRanges", "internal/bytealg.MaxLen"], apart := false, laid := [("unicode/utf8.acceptRanges", laid_unicode_utf8_acceptRanges), ("unicode/utf8.first", laid_unicode_utf8_first)] }
def FeedOnSaid : Prop := feedOnRow.holds Tryd.pinned (OpenSpec.ofChange feedOnSpec)

/-- ITS FALSE NEIGHBOUR: 'it returns false'. Refute it at one input. -/
def feedOnWrong : ChangeSpec := { name := "feedOn", fn := fun _ => fun
  | [d1, d2] => { results := [.lit (.bool false)], args := [d1, d2] }
  | _ => none }
def FeedOnWrongFalsely : Prop := feedOnRow.holds Tryd.pinned (OpenSpec.ofChange feedOnWrong)

/-- 'tattlerlaw08.FeedBytes': WHATEVER THE INPUT: true; the input reads as it did. -/
def feedBytesSpec : ChangeSpec := { name := "feedBytes", fn := fun _ => fun
  | [d] => { results := [.lit (.bool true)], args := [d] }
  | _ => none }
def feedBytesRow : OpenClaim := { program := "ythinmioognadpaadoor", sum := "3ec9d0ab787cca072b22bbc0de7edeeafbce7b4287610419dc057a448b632f8f", func := "tattler/tattlerlaw08.FeedBytes", spec := "feedBytes", inPlace := ["internal/bytealg.CountString", "internal/bytealg.IndexByteString", "internal/bytealg.IndexString"], unfollowed := true, recurses := true, named := ["unicode/utf8.first", "unicode/utf8.acceptRanges", "internal/bytealg.MaxLen"], apart := false, laid := [("unicode/utf8.acceptRanges", laid_unicode_utf8_acceptRanges), ("unicode/utf8.first", laid_unicode_utf8_first)] }
def FeedBytesSaid : Prop := feedBytesRow.holds Tryd.pinned (OpenSpec.ofChange feedBytesSpec)

/-- ITS FALSE NEIGHBOUR: 'it returns false'. Refute it at one input. -/
def feedBytesWrong : ChangeSpec := { name := "feedBytes", fn := fun _ => fun
  | [d] => { results := [.lit (.bool false)], args := [d] }
  | _ => none }
def FeedBytesWrongFalsely : Prop := feedBytesRow.holds Tryd.pinned (OpenSpec.ofChange feedBytesWrong)

/-- 'tattlerlaw08.FeedBounded': WHATEVER THE INPUT: true; the input reads as it did. -/
def feedBoundedSpec : ChangeSpec := { name := "feedBounded", fn := fun _ => fun
  | [d] => { results := [.lit (.bool true)], args := [d] }
  | _ => none }
def feedBoundedRow : OpenClaim := { program := "ythinmioognadpaadoor", sum := "3ec9d0ab787cca072b22bbc0de7edeeafbce7b4287610419dc057a448b632f8f", func := "tattler/tattlerlaw08.FeedBounded", spec := "feedBounded", inPlace := ["internal/bytealg.CountString", "internal/bytealg.IndexByteString", "internal/bytealg.IndexString"], unfollowed := true, recurses := true, named := ["unicode/utf8.first", "unicode/utf8.acceptRanges", "internal/bytealg.MaxLen"], apart := false, laid := [("unicode/utf8.acceptRanges", laid_unicode_utf8_acceptRanges), ("unicode/utf8.first", laid_unicode_utf8_first)] }
def FeedBoundedSaid : Prop := feedBoundedRow.holds Tryd.pinned (OpenSpec.ofChange feedBoundedSpec)

/-- ITS FALSE NEIGHBOUR: 'it returns false'. Refute it at one input. -/
def feedBoundedWrong : ChangeSpec := { name := "feedBounded", fn := fun _ => fun
  | [d] => { results := [.lit (.bool false)], args := [d] }
  | _ => none }
def FeedBoundedWrongFalsely : Prop := feedBoundedRow.holds Tryd.pinned (OpenSpec.ofChange feedBoundedWrong)

/-- 'tattlerlaw08.FeedData': WHATEVER THE INPUT: true; the input reads as it did. -/
def feedDataSpec : ChangeSpec := { name := "feedData", fn := fun _ => fun
  | [d1, d2] => { results := [.lit (.bool true)], args := [d1, d2] }
  | _ => none }
def feedDataRow : OpenClaim := { program := "ythinmioognadpaadoor", sum := "3ec9d0ab787cca072b22bbc0de7edeeafbce7b4287610419dc057a448b632f8f", func := "tattler/tattlerlaw08.FeedData", spec := "feedData", inPlace := ["internal/bytealg.CountString", "internal/bytealg.IndexByteString", "internal/bytealg.IndexString"], unfollowed := true, recurses := true, named := ["unicode/utf8.first", "unicode/utf8.acceptRanges", "internal/bytealg.MaxLen"], apart := false, laid := [("unicode/utf8.acceptRanges", laid_unicode_utf8_acceptRanges), ("unicode/utf8.first", laid_unicode_utf8_first)] }
def FeedDataSaid : Prop := feedDataRow.holds Tryd.pinned (OpenSpec.ofChange feedDataSpec)

/-- ITS FALSE NEIGHBOUR: 'it returns false'. Refute it at one input. -/
def feedDataWrong : ChangeSpec := { name := "feedData", fn := fun _ => fun
  | [d1, d2] => { results := [.lit (.bool false)], args := [d1, d2] }
  | _ => none }
def FeedDataWrongFalsely : Prop := feedDataRow.holds Tryd.pinned (OpenSpec.ofChange feedDataWrong)

/- THE SECOND FORM. 'bulk': how many values and letters a reading holds, each counted each time it is reached (what is shared counts as often as it is met; a slice's spare places count too). A statement '..UptoSaid' is the law's where the arguments, and the package variables that the reading takes, are together of bulk at most 1048576: NARROWER than '..Said'. Prove '..Said' where nothing that the law and all that it calls make is longer than what came in: it says more and counts as full. Else prove '..UptoSaid'. A law counts once. -/
mutual
def uptoBulk {H : Type} : DataW H → Nat
  | .lit (.string bytes) => bytes.length + 1
  | .lit _ => 1
  | .nil => 1
  | .ptr d => uptoBulk d + 1
  | .slice elems spare => uptoBulkAll elems + uptoBulkAll spare + 1
  | .agg parts => uptoBulkAll parts + 1
  | .iface _ d => uptoBulk d + 1
  | .map entries => uptoBulkEntries entries + 1
  | .held _ => 1
def uptoBulkAll {H : Type} : List (DataW H) → Nat
  | [] => 0
  | d :: r => uptoBulk d + uptoBulkAll r
def uptoBulkEntries {H : Type} : List (Lit × DataW H) → Nat
  | [] => 0
  | x :: r => uptoBulkEntry x + uptoBulkEntries r
def uptoBulkEntry {H : Type} : Lit × DataW H → Nat
  | (.string bytes, d) => bytes.length + uptoBulk d + 1
  | (_, d) => uptoBulk d + 1
 end
def uptoSmall : (H : Type) → List (DataW H) → Bool := fun _ ds => decide (uptoBulkAll ds ≤ 1048576)
def OpenSpec.upto (s : _root_.Go.ChangeSpec) : _root_.Go.OpenSpec := { _root_.Go.OpenSpec.ofChange s with cond := some uptoSmall }

/-- 'tattlerlaw08.FeedOn', WHERE WHAT IT READS IS OF BULK AT MOST 1048576: true; the input reads as it did. -/
def feedOnUptoRow : OpenClaim := { program := "ythinmioognadpaadoor", sum := "3ec9d0ab787cca072b22bbc0de7edeeafbce7b4287610419dc057a448b632f8f", func := "tattler/tattlerlaw08.FeedOn", spec := "feedOn", inPlace := ["internal/bytealg.CountString", "internal/bytealg.IndexByteString", "internal/bytealg.IndexString"], unfollowed := true, recurses := true, named := ["unicode/utf8.first", "unicode/utf8.acceptRanges", "internal/bytealg.MaxLen"], apart := false, laid := [("unicode/utf8.acceptRanges", laid_unicode_utf8_acceptRanges), ("unicode/utf8.first", laid_unicode_utf8_first)], narrowed := true }
def FeedOnUptoSaid : Prop := feedOnUptoRow.holds Tryd.pinned (OpenSpec.upto feedOnSpec)

/-- 'tattlerlaw08.FeedBytes', WHERE WHAT IT READS IS OF BULK AT MOST 1048576: true; the input reads as it did. -/
def feedBytesUptoRow : OpenClaim := { program := "ythinmioognadpaadoor", sum := "3ec9d0ab787cca072b22bbc0de7edeeafbce7b4287610419dc057a448b632f8f", func := "tattler/tattlerlaw08.FeedBytes", spec := "feedBytes", inPlace := ["internal/bytealg.CountString", "internal/bytealg.IndexByteString", "internal/bytealg.IndexString"], unfollowed := true, recurses := true, named := ["unicode/utf8.first", "unicode/utf8.acceptRanges", "internal/bytealg.MaxLen"], apart := false, laid := [("unicode/utf8.acceptRanges", laid_unicode_utf8_acceptRanges), ("unicode/utf8.first", laid_unicode_utf8_first)], narrowed := true }
def FeedBytesUptoSaid : Prop := feedBytesUptoRow.holds Tryd.pinned (OpenSpec.upto feedBytesSpec)

/-- 'tattlerlaw08.FeedBounded', WHERE WHAT IT READS IS OF BULK AT MOST 1048576: true; the input reads as it did. -/
def feedBoundedUptoRow : OpenClaim := { program := "ythinmioognadpaadoor", sum := "3ec9d0ab787cca072b22bbc0de7edeeafbce7b4287610419dc057a448b632f8f", func := "tattler/tattlerlaw08.FeedBounded", spec := "feedBounded", inPlace := ["internal/bytealg.CountString", "internal/bytealg.IndexByteString", "internal/bytealg.IndexString"], unfollowed := true, recurses := true, named := ["unicode/utf8.first", "unicode/utf8.acceptRanges", "internal/bytealg.MaxLen"], apart := false, laid := [("unicode/utf8.acceptRanges", laid_unicode_utf8_acceptRanges), ("unicode/utf8.first", laid_unicode_utf8_first)], narrowed := true }
def FeedBoundedUptoSaid : Prop := feedBoundedUptoRow.holds Tryd.pinned (OpenSpec.upto feedBoundedSpec)

/-- 'tattlerlaw08.FeedData', WHERE WHAT IT READS IS OF BULK AT MOST 1048576: true; the input reads as it did. -/
def feedDataUptoRow : OpenClaim := { program := "ythinmioognadpaadoor", sum := "3ec9d0ab787cca072b22bbc0de7edeeafbce7b4287610419dc057a448b632f8f", func := "tattler/tattlerlaw08.FeedData", spec := "feedData", inPlace := ["internal/bytealg.CountString", "internal/bytealg.IndexByteString", "internal/bytealg.IndexString"], unfollowed := true, recurses := true, named := ["unicode/utf8.first", "unicode/utf8.acceptRanges", "internal/bytealg.MaxLen"], apart := false, laid := [("unicode/utf8.acceptRanges", laid_unicode_utf8_acceptRanges), ("unicode/utf8.first", laid_unicode_utf8_first)], narrowed := true }
def FeedDataUptoSaid : Prop := feedDataUptoRow.holds Tryd.pinned (OpenSpec.upto feedDataSpec)

end Rows
end Go.Proofs.YthinmioognadpaaDoor

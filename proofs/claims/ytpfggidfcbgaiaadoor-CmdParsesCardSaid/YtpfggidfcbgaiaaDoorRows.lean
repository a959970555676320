/-
  NARROWER THAN 'FOR EVERY INPUT', by the rows' own cells (each row's printed sentence says how): CmdParses: laid · CmdBlanks: laid · CmdRight: laid · CmdSets: laid · CmdNoreply: laid.
  DERIVED. THE GIVEN ROWS OF THIS SEAT. 5 by the template 'for every input the law returns true; each argument reads behind the call as it read before'; 0 by the template 'total and deterministic' (their statements: YtpfggidfcbgaiaaDoorTotals.lean).
  GIVEN WITH THE SEED: the statements are not yours to turn. If you find one false, say at which input.
  Laid BY PROGRAM, IN A SANDBOX (cutbox-rows.mjs): the forced cells as the released guide's own fill.sh prints them over the translation 06f33f6869464703… (all of the seat's roots in one cut). By AI agents, Wed Nov 11 2026. No macro, syntax, notation, axiom, sorry.
-/
import Derived.Test.YtpfggidfcbgaiaaDoorChecked
import GoSem.PinnedTables
import GoSem.Claim
import GoSem.ClaimJoined
import GoSem.ClaimMapViews
import Derived.JoinedTies
import Derived.KernelRfl
namespace Go.Proofs.YtpfggidfcbgaiaaDoor
/- THE CELL 'sum', in the pinned program and in every row, IS THE sha256 OF THE DUMP (.gsa) THAT YtpfggidfcbgaiaaDoorProg.lean LOADS. Nothing in Lean hashes anything: it is a label: what it is worth is what the hold of that sum in a sandbox is worth. -/
noncomputable def Tryd.pinned : Pinned := { name := "ytpfggidfcbgaiaadoor", sum := "06f33f686946470304cd1dd157b03f76668cb2bdf36b7c06ddc9cf6e24658a54", checked := Tryd.checked }
namespace Rows
def none {H : Type} : Left H := { results := [], args := [] }

/- WHAT THE LISTED PACKAGE-LEVEL VARIABLES READ AS WHEN THE CALL BEGINS. Each datum BY PROGRAM (the guide's laid-datum.mjs) off the statement by which the dump's own 'gosem.cut.vars' lays the variable. In a bare row this is a premise. The card (YtpfggidfcbgaiaaDoorCards.lean) ties it to the program's text. -/
def laid_unicode_utf8_acceptRanges {H : Type} : DataW H := .agg [.agg [.lit (.int .u8 128), .lit (.int .u8 191)], .agg [.lit (.int .u8 160), .lit (.int .u8 191)], .agg [.lit (.int .u8 128), .lit (.int .u8 159)], .agg [.lit (.int .u8 144), .lit (.int .u8 191)], .agg [.lit (.int .u8 128), .lit (.int .u8 143)], .agg [.lit (.int .u8 0), .lit (.int .u8 0)], .agg [.lit (.int .u8 0), .lit (.int .u8 0)], .agg [.lit (.int .u8 0), .lit (.int .u8 0)], .agg [.lit (.int .u8 0), .lit (.int .u8 0)], .agg [.lit (.int .u8 0), .lit (.int .u8 0)], .agg [.lit (.int .u8 0), .lit (.int .u8 0)], .agg [.lit (.int .u8 0), .lit (.int .u8 0)], .agg [.lit (.int .u8 0), .lit (.int .u8 0)], .agg [.lit (.int .u8 0), .lit (.int .u8 0)], .agg [.lit (.int .u8 0), .lit (.int .u8 0)], .agg [.lit (.int .u8 0), .lit (.int .u8 0)]]
/-- One of Go's own tables, pinned by name: the form's constant. -/
def laid_unicode_utf8_first : DataW Unit := Go.Pinned.utf8First

/-- 'tattlerlaw07.CmdParses': WHATEVER THE INPUT: true; the input reads as it did. -/
def cmdParsesSpec : ChangeSpec := { name := "cmdParses", fn := fun _ => fun
  | [d] => { results := [.lit (.bool true)], args := [d] }
  | _ => none }
def cmdParsesRow : OpenClaim := { program := "ytpfggidfcbgaiaadoor", sum := "06f33f686946470304cd1dd157b03f76668cb2bdf36b7c06ddc9cf6e24658a54", func := "tattler/tattlerlaw07.CmdParses", spec := "cmdParses", inPlace := ["internal/bytealg.CountString", "internal/bytealg.IndexByteString", "internal/bytealg.IndexString"], named := ["unicode/utf8.first", "unicode/utf8.acceptRanges", "internal/bytealg.MaxLen"], apart := false, laid := [("unicode/utf8.acceptRanges", laid_unicode_utf8_acceptRanges), ("unicode/utf8.first", laid_unicode_utf8_first)] }
def CmdParsesSaid : Prop := cmdParsesRow.holds Tryd.pinned (OpenSpec.ofChange cmdParsesSpec)

/-- ITS FALSE NEIGHBOUR: 'it returns false'. Refute it at one input. -/
def cmdParsesWrong : ChangeSpec := { name := "cmdParses", fn := fun _ => fun
  | [d] => { results := [.lit (.bool false)], args := [d] }
  | _ => none }
def CmdParsesWrongFalsely : Prop := cmdParsesRow.holds Tryd.pinned (OpenSpec.ofChange cmdParsesWrong)

/-- 'tattlerlaw07.CmdBlanks': WHATEVER THE INPUT: true; the input reads as it did. -/
def cmdBlanksSpec : ChangeSpec := { name := "cmdBlanks", fn := fun _ => fun
  | [d1, d2] => { results := [.lit (.bool true)], args := [d1, d2] }
  | _ => none }
def cmdBlanksRow : OpenClaim := { program := "ytpfggidfcbgaiaadoor", sum := "06f33f686946470304cd1dd157b03f76668cb2bdf36b7c06ddc9cf6e24658a54", func := "tattler/tattlerlaw07.CmdBlanks", spec := "cmdBlanks", inPlace := ["internal/bytealg.CountString", "internal/bytealg.IndexByteString", "internal/bytealg.IndexString"], named := ["unicode/utf8.first", "unicode/utf8.acceptRanges", "internal/bytealg.MaxLen"], apart := false, laid := [("unicode/utf8.acceptRanges", laid_unicode_utf8_acceptRanges), ("unicode/utf8.first", laid_unicode_utf8_first)] }
def CmdBlanksSaid : Prop := cmdBlanksRow.holds Tryd.pinned (OpenSpec.ofChange cmdBlanksSpec)

/-- ITS FALSE NEIGHBOUR: 'it returns false'. Refute it at one input. -/
def cmdBlanksWrong : ChangeSpec := { name := "cmdBlanks", fn := fun _ => fun
  | [d1, d2] => { results := [.lit (.bool false)], args := [d1, d2] }
  | _ => none }
def CmdBlanksWrongFalsely : Prop := cmdBlanksRow.holds Tryd.pinned (OpenSpec.ofChange cmdBlanksWrong)

/-- 'tattlerlaw07.CmdRight': WHATEVER THE INPUT: true; the input reads as it did. -/
def cmdRightSpec : ChangeSpec := { name := "cmdRight", fn := fun _ => fun
  | [d] => { results := [.lit (.bool true)], args := [d] }
  | _ => none }
def cmdRightRow : OpenClaim := { program := "ytpfggidfcbgaiaadoor", sum := "06f33f686946470304cd1dd157b03f76668cb2bdf36b7c06ddc9cf6e24658a54", func := "tattler/tattlerlaw07.CmdRight", spec := "cmdRight", inPlace := ["internal/bytealg.CountString", "internal/bytealg.IndexByteString", "internal/bytealg.IndexString"], named := ["unicode/utf8.first", "unicode/utf8.acceptRanges", "internal/bytealg.MaxLen"], apart := false, laid := [("unicode/utf8.acceptRanges", laid_unicode_utf8_acceptRanges), ("unicode/utf8.first", laid_unicode_utf8_first)] }
def CmdRightSaid : Prop := cmdRightRow.holds Tryd.pinned (OpenSpec.ofChange cmdRightSpec)

/-- ITS FALSE NEIGHBOUR: 'it returns false'. Refute it at one input. -/
def cmdRightWrong : ChangeSpec := { name := "cmdRight", fn := fun _ => fun
  | [d] => { results := [.lit (.bool false)], args := [d] }
  | _ => none }
def CmdRightWrongFalsely : Prop := cmdRightRow.holds Tryd.pinned (OpenSpec.ofChange cmdRightWrong)

/-- 'tattlerlaw07.CmdSets': WHATEVER THE INPUT: true; the input reads as it did. -/
def cmdSetsSpec : ChangeSpec := { name := "cmdSets", fn := fun _ => fun
  | [d1, d2, d3, d4, d5] => { results := [.lit (.bool true)], args := [d1, d2, d3, d4, d5] }
  | _ => none }
def cmdSetsRow : OpenClaim := { program := "ytpfggidfcbgaiaadoor", sum := "06f33f686946470304cd1dd157b03f76668cb2bdf36b7c06ddc9cf6e24658a54", func := "tattler/tattlerlaw07.CmdSets", spec := "cmdSets", inPlace := ["internal/bytealg.CountString", "internal/bytealg.IndexByteString", "internal/bytealg.IndexString"], recurses := true, named := ["unicode/utf8.first", "unicode/utf8.acceptRanges", "internal/bytealg.MaxLen"], apart := false, laid := [("unicode/utf8.acceptRanges", laid_unicode_utf8_acceptRanges), ("unicode/utf8.first", laid_unicode_utf8_first)] }
def CmdSetsSaid : Prop := cmdSetsRow.holds Tryd.pinned (OpenSpec.ofChange cmdSetsSpec)

/-- ITS FALSE NEIGHBOUR: 'it returns false'. Refute it at one input. -/
def cmdSetsWrong : ChangeSpec := { name := "cmdSets", fn := fun _ => fun
  | [d1, d2, d3, d4, d5] => { results := [.lit (.bool false)], args := [d1, d2, d3, d4, d5] }
  | _ => none }
def CmdSetsWrongFalsely : Prop := cmdSetsRow.holds Tryd.pinned (OpenSpec.ofChange cmdSetsWrong)

/-- 'tattlerlaw07.CmdNoreply': WHATEVER THE INPUT: true; the input reads as it did. -/
def cmdNoreplySpec : ChangeSpec := { name := "cmdNoreply", fn := fun _ => fun
  | [d1, d2, d3] => { results := [.lit (.bool true)], args := [d1, d2, d3] }
  | _ => none }
def cmdNoreplyRow : OpenClaim := { program := "ytpfggidfcbgaiaadoor", sum := "06f33f686946470304cd1dd157b03f76668cb2bdf36b7c06ddc9cf6e24658a54", func := "tattler/tattlerlaw07.CmdNoreply", spec := "cmdNoreply", inPlace := ["internal/bytealg.CountString", "internal/bytealg.IndexByteString", "internal/bytealg.IndexString"], recurses := true, named := ["unicode/utf8.first", "unicode/utf8.acceptRanges", "internal/bytealg.MaxLen"], apart := false, laid := [("unicode/utf8.acceptRanges", laid_unicode_utf8_acceptRanges), ("unicode/utf8.first", laid_unicode_utf8_first)] }
def CmdNoreplySaid : Prop := cmdNoreplyRow.holds Tryd.pinned (OpenSpec.ofChange cmdNoreplySpec)

/-- ITS FALSE NEIGHBOUR: 'it returns false'. Refute it at one input. -/
def cmdNoreplyWrong : ChangeSpec := { name := "cmdNoreply", fn := fun _ => fun
  | [d1, d2, d3] => { results := [.lit (.bool false)], args := [d1, d2, d3] }
  | _ => none }
def CmdNoreplyWrongFalsely : Prop := cmdNoreplyRow.holds Tryd.pinned (OpenSpec.ofChange cmdNoreplyWrong)

/- THE SECOND FORM. 'bulk': how many values and letters a reading holds, each counted each time it is reached (what is shared counts as often as it is met; a slice's spare places count too). A statement '..UptoSaid' is the law's where the arguments, and the package variables that the reading takes, are together of bulk at most 1048576: NARROWER than '..Said'. Prove '..Said' where nothing that the law and all that it calls make is longer than what came in: it says more and counts as full. Else prove '..UptoSaid'. A law counts once. -/
mutual
def uptoBulk {H : Type} : DataW H → Nat
  | .lit (.string bytes) => bytes.length + 1
  | .lit _ => 1
  | .nil => 1
  | .ptr d => uptoBulk d + 1
  | .slice elems spare => uptoBulkAll elems + uptoBulkAll spare + 1
  | .agg parts => uptoBulkAll parts + 1
  | .iface _ d => uptoBulk d + 1
  | .map entries => uptoBulkEntries entries + 1
  | .held _ => 1
def uptoBulkAll {H : Type} : List (DataW H) → Nat
  | [] => 0
  | d :: r => uptoBulk d + uptoBulkAll r
def uptoBulkEntries {H : Type} : List (Lit × DataW H) → Nat
  | [] => 0
  | x :: r => uptoBulkEntry x + uptoBulkEntries r
def uptoBulkEntry {H : Type} : Lit × DataW H → Nat
  | (.string bytes, d) => bytes.length + uptoBulk d + 1
  | (_, d) => uptoBulk d + 1
 end
def uptoSmall : (H : Type) → List (DataW H) → Bool := fun _ ds => decide (uptoBulkAll ds ≤ 1048576)
def OpenSpec.upto (s : _root_.Go.ChangeSpec) : _root_.Go.OpenSpec := { _root_.Go.OpenSpec.ofChange s with cond := some uptoSmall }

/-- 'tattlerlaw07.CmdParses', WHERE WHAT IT READS IS OF BULK AT MOST 1048576: true; the input reads as it did. -/
def cmdParsesUptoRow : OpenClaim := { program := "ytpfggidfcbgaiaadoor", sum := "06f33f686946470304cd1dd157b03f76668cb2bdf36b7c06ddc9cf6e24658a54", func := "tattler/tattlerlaw07.CmdParses", spec := "cmdParses", inPlace := ["internal/bytealg.CountString", "internal/bytealg.IndexByteString", "internal/bytealg.IndexString"], named := ["unicode/utf8.first", "unicode/utf8.acceptRanges", "internal/bytealg.MaxLen"], apart := false, laid := [("unicode/utf8.acceptRanges", laid_unicode_utf8_acceptRanges), ("unicode/utf8.first", laid_unicode_utf8_first)], narrowed := true }
def CmdParsesUptoSaid : Prop := cmdParsesUptoRow.holds Tryd.pinned (OpenSpec.upto cmdParsesSpec)

/-- 'tattlerlaw07.CmdBlanks', WHERE WHAT IT READS IS OF BULK AT MOST 1048576: true; the input reads as it did. -/
def cmdBlanksUptoRow : OpenClaim := { program := "ytpfggidfcbgaiaadoor", sum := "06f33f686946470304cd1dd157b03f76668cb2bdf36b7c06ddc9cf6e24658a54", func := "tattler/tattlerlaw07.CmdBlanks", spec := "cmdBlanks", inPlace := ["internal/bytealg.CountString", "internal/bytealg.IndexByteString", "internal/bytealg.IndexString"], named := ["unicode/utf8.first", "unicode/utf8.acceptRanges", "internal/bytealg.MaxLen"], apart := false, laid := [("unicode/utf8.acceptRanges", laid_unicode_utf8_acceptRanges), ("unicode/utf8.first", laid_unicode_utf8_first)], narrowed := true }
def CmdBlanksUptoSaid : Prop := cmdBlanksUptoRow.holds Tryd.pinned (OpenSpec.upto cmdBlanksSpec)

/-- 'tattlerlaw07.CmdRight', WHERE WHAT IT READS IS OF BULK AT MOST 1048576: true; the input reads as it did. -/
def cmdRightUptoRow : OpenClaim := { program := "ytpfggidfcbgaiaadoor", sum := "06f33f686946470304cd1dd157b03f76668cb2bdf36b7c06ddc9cf6e24658a54", func := "tattler/tattlerlaw07.CmdRight", spec := "cmdRight", inPlace := ["internal/bytealg.CountString", "internal/bytealg.IndexByteString", "internal/bytealg.IndexString"], named := ["unicode/utf8.first", "unicode/utf8.acceptRanges", "internal/bytealg.MaxLen"], apart := false, laid := [("unicode/utf8.acceptRanges", laid_unicode_utf8_acceptRanges), ("unicode/utf8.first", laid_unicode_utf8_first)], narrowed := true }
def CmdRightUptoSaid : Prop := cmdRightUptoRow.holds Tryd.pinned (OpenSpec.upto cmdRightSpec)

/-- 'tattlerlaw07.CmdSets', WHERE WHAT IT READS IS OF BULK AT MOST 1048576: true; the input reads as it did. -/
def cmdSetsUptoRow : OpenClaim := { program := "ytpfggidfcbgaiaadoor", sum := "06f33f686946470304cd1dd157b03f76668cb2bdf36b7c06ddc9cf6e24658a54", func := "tattler/tattlerlaw07.CmdSets", spec := "cmdSets", inPlace := ["internal/bytealg.CountString", "internal/bytealg.IndexByteString", "internal/bytealg.IndexString"], recurses := true, named := ["unicode/utf8.first", "unicode/utf8.acceptRanges", "internal/bytealg.MaxLen"], apart := false, laid := [("unicode/utf8.acceptRanges", laid_unicode_utf8_acceptRanges), ("unicode/utf8.first", laid_unicode_utf8_first)], narrowed := true }
def CmdSetsUptoSaid : Prop := cmdSetsUptoRow.holds Tryd.pinned (OpenSpec.upto cmdSetsSpec)

/-- 'tattlerlaw07.CmdNoreply', WHERE WHAT IT READS IS OF BULK AT MOST 1048576: true; the input reads as it did. -/
def cmdNoreplyUptoRow : OpenClaim := { program := "ytpfggidfcbgaiaadoor", sum := "06f33f686946470304cd1dd157b03f76668cb2bdf36b7c06ddc9cf6e24658a54", func := "tattler/tattlerlaw07.CmdNoreply", spec := "cmdNoreply", inPlace := ["internal/bytealg.CountString", "internal/bytealg.IndexByteString", "internal/bytealg.IndexString"], recurses := true, named := ["unicode/utf8.first", "unicode/utf8.acceptRanges", "internal/bytealg.MaxLen"], apart := false, laid := [("unicode/utf8.acceptRanges", laid_unicode_utf8_acceptRanges), ("unicode/utf8.first", laid_unicode_utf8_first)], narrowed := true }
def CmdNoreplyUptoSaid : Prop := cmdNoreplyUptoRow.holds Tryd.pinned (OpenSpec.upto cmdNoreplySpec)

end Rows
end Go.Proofs.YtpfggidfcbgaiaaDoor

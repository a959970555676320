/-
  No cell of these rows narrows 'for every input' (looked for: loops, veiled, ifaces, maps, wideKeys, modest, calm, conditions, laid).
  DERIVED. THE GIVEN ROWS OF THIS SEAT. 3 by the template 'for every input the law returns true; each argument reads behind the call as it read before'; 0 by the template 'total and deterministic' (their statements: YtnbcbokdbenbiaaTotals.lean).
  GIVEN WITH THE SEED: the statements are not yours to turn. If you find one false, say at which input.
  Laid BY PROGRAM, IN A SANDBOX (cutbox-rows.mjs): the forced cells as the released guide's own fill.sh prints them over the translation 6e30334cac7f9ebb… (all of the seat's roots in one cut). By AI agents, Wed Nov 11 2026. No macro, syntax, notation, axiom, sorry.
-/
import Derived.Test.YtnbcbokdbenbiaaChecked
import GoSem.Claim
import GoSem.ClaimJoined
import GoSem.ClaimMapViews
import Derived.JoinedTies
import Derived.KernelRfl
namespace Go.Proofs.Ytnbcbokdbenbiaa
/- THE CELL 'sum', in the pinned program and in every row, IS THE sha256 OF THE DUMP (.gsa) THAT YtnbcbokdbenbiaaProg.lean LOADS. Nothing in Lean hashes anything: it is a label: what it is worth is what the hold of that sum in a sandbox is worth. -/
noncomputable def Try.pinned : Pinned := { name := "ytnbcbokdbenbiaa", sum := "6e30334cac7f9ebbe8276e71b2f53f6966f8f569f3b972938fb07a63c6022fdd", checked := Try.checked }
namespace Rows
def none {H : Type} : Left H := { results := [], args := [] }

/-- 'tattlerlaw21.AskAnyOrder': WHATEVER THE INPUT: true; the input reads as it did. -/
def askAnyOrderSpec : ChangeSpec := { name := "askAnyOrder", fn := fun _ => fun
  | [d1, d2, d3, d4] => { results := [.lit (.bool true)], args := [d1, d2, d3, d4] }
  | _ => none }
def askAnyOrderRow : OpenClaim := { program := "ytnbcbokdbenbiaa", sum := "6e30334cac7f9ebbe8276e71b2f53f6966f8f569f3b972938fb07a63c6022fdd", func := "tattler/tattlerlaw21.AskAnyOrder", spec := "askAnyOrder", inPlace := ["internal/bytealg.abigen_runtime_cmpstring"], unfollowed := true, recurses := true, apart := false }
def AskAnyOrderSaid : Prop := askAnyOrderRow.holds Try.pinned (OpenSpec.ofChange askAnyOrderSpec)

/-- ITS FALSE NEIGHBOUR: 'it returns false'. Refute it at one input. -/
def askAnyOrderWrong : ChangeSpec := { name := "askAnyOrder", fn := fun _ => fun
  | [d1, d2, d3, d4] => { results := [.lit (.bool false)], args := [d1, d2, d3, d4] }
  | _ => none }
def AskAnyOrderWrongFalsely : Prop := askAnyOrderRow.holds Try.pinned (OpenSpec.ofChange askAnyOrderWrong)

/-- 'tattlerlaw21.AskOnce': WHATEVER THE INPUT: true; the input reads as it did. -/
def askOnceSpec : ChangeSpec := { name := "askOnce", fn := fun _ => fun
  | [d1, d2, d3, d4] => { results := [.lit (.bool true)], args := [d1, d2, d3, d4] }
  | _ => none }
def askOnceRow : OpenClaim := { program := "ytnbcbokdbenbiaa", sum := "6e30334cac7f9ebbe8276e71b2f53f6966f8f569f3b972938fb07a63c6022fdd", func := "tattler/tattlerlaw21.AskOnce", spec := "askOnce", inPlace := ["internal/bytealg.abigen_runtime_cmpstring"], unfollowed := true, recurses := true, apart := false }
def AskOnceSaid : Prop := askOnceRow.holds Try.pinned (OpenSpec.ofChange askOnceSpec)

/-- ITS FALSE NEIGHBOUR: 'it returns false'. Refute it at one input. -/
def askOnceWrong : ChangeSpec := { name := "askOnce", fn := fun _ => fun
  | [d1, d2, d3, d4] => { results := [.lit (.bool false)], args := [d1, d2, d3, d4] }
  | _ => none }
def AskOnceWrongFalsely : Prop := askOnceRow.holds Try.pinned (OpenSpec.ofChange askOnceWrong)

/-- 'tattlerlaw21.AskOver': WHATEVER THE INPUT: true; the input reads as it did. -/
def askOverSpec : ChangeSpec := { name := "askOver", fn := fun _ => fun
  | [d1, d2, d3, d4] => { results := [.lit (.bool true)], args := [d1, d2, d3, d4] }
  | _ => none }
def askOverRow : OpenClaim := { program := "ytnbcbokdbenbiaa", sum := "6e30334cac7f9ebbe8276e71b2f53f6966f8f569f3b972938fb07a63c6022fdd", func := "tattler/tattlerlaw21.AskOver", spec := "askOver", inPlace := ["internal/bytealg.abigen_runtime_cmpstring"], unfollowed := true, recurses := true, apart := false }
def AskOverSaid : Prop := askOverRow.holds Try.pinned (OpenSpec.ofChange askOverSpec)

/-- ITS FALSE NEIGHBOUR: 'it returns false'. Refute it at one input. -/
def askOverWrong : ChangeSpec := { name := "askOver", fn := fun _ => fun
  | [d1, d2, d3, d4] => { results := [.lit (.bool false)], args := [d1, d2, d3, d4] }
  | _ => none }
def AskOverWrongFalsely : Prop := askOverRow.holds Try.pinned (OpenSpec.ofChange askOverWrong)

/- THE SECOND FORM. 'bulk': how many values and letters a reading holds, each counted each time it is reached (what is shared counts as often as it is met; a slice's spare places count too). A statement '..UptoSaid' is the law's where the arguments, and the package variables that the reading takes, are together of bulk at most 1048576: NARROWER than '..Said'. Prove '..Said' where nothing that the law and all that it calls make is longer than what came in: it says more and counts as full. Else prove '..UptoSaid'. A law counts once. -/
mutual
def uptoBulk {H : Type} : DataW H → Nat
  | .lit (.string bytes) => bytes.length + 1
  | .lit _ => 1
  | .nil => 1
  | .ptr d => uptoBulk d + 1
  | .slice elems spare => uptoBulkAll elems + uptoBulkAll spare + 1
  | .agg parts => uptoBulkAll parts + 1
  | .iface _ d => uptoBulk d + 1
  | .map entries => uptoBulkEntries entries + 1
  | .held _ => 1
def uptoBulkAll {H : Type} : List (DataW H) → Nat
  | [] => 0
  | d :: r => uptoBulk d + uptoBulkAll r
def uptoBulkEntries {H : Type} : List (Lit × DataW H) → Nat
  | [] => 0
  | x :: r => uptoBulkEntry x + uptoBulkEntries r
def uptoBulkEntry {H : Type} : Lit × DataW H → Nat
  | (.string bytes, d) => bytes.length + uptoBulk d + 1
  | (_, d) => uptoBulk d + 1
 end
def uptoSmall : (H : Type) → List (DataW H) → Bool := fun _ ds => decide (uptoBulkAll ds ≤ 1048576)
def OpenSpec.upto (s : _root_.Go.ChangeSpec) : _root_.Go.OpenSpec := { _root_.Go.OpenSpec.ofChange s with cond := some uptoSmall }

/-- 'tattlerlaw21.AskAnyOrder', WHERE WHAT IT READS IS OF BULK AT MOST 1048576: true; the input reads as it did. -/
def askAnyOrderUptoRow : OpenClaim := { program := "ytnbcbokdbenbiaa", sum := "6e30334cac7f9ebbe8276e71b2f53f6966f8f569f3b972938fb07a63c6022fdd", func := "tattler/tattlerlaw21.AskAnyOrder", spec := "askAnyOrder", inPlace := ["internal/bytealg.abigen_runtime_cmpstring"], unfollowed := true, recurses := true, apart := false, narrowed := true }
def AskAnyOrderUptoSaid : Prop := askAnyOrderUptoRow.holds Try.pinned (OpenSpec.upto askAnyOrderSpec)

/-- 'tattlerlaw21.AskOnce', WHERE WHAT IT READS IS OF BULK AT MOST 1048576: true; the input reads as it did. -/
def askOnceUptoRow : OpenClaim := { program := "ytnbcbokdbenbiaa", sum := "6e30334cac7f9ebbe8276e71b2f53f6966f8f569f3b972938fb07a63c6022fdd", func := "tattler/tattlerlaw21.AskOnce", spec := "askOnce", inPlace := ["internal/bytealg.abigen_runtime_cmpstring"], unfollowed := true, recurses := true, apart := false, narrowed := true }
def AskOnceUptoSaid : Prop := askOnceUptoRow.holds Try.pinned (OpenSpec.upto askOnceSpec)

/-- 'tattlerlaw21.AskOver', WHERE WHAT IT READS IS OF BULK AT MOST 1048576: true; the input reads as it did. -/
def askOverUptoRow : OpenClaim := { program := "ytnbcbokdbenbiaa", sum := "6e30334cac7f9ebbe8276e71b2f53f6966f8f569f3b972938fb07a63c6022fdd", func := "tattler/tattlerlaw21.AskOver", spec := "askOver", inPlace := ["internal/bytealg.abigen_runtime_cmpstring"], unfollowed := true, recurses := true, apart := false, narrowed := true }
def AskOverUptoSaid : Prop := askOverUptoRow.holds Try.pinned (OpenSpec.upto askOverSpec)

end Rows
end Go.Proofs.Ytnbcbokdbenbiaa

/-
  No cell of these rows narrows 'for every input' (looked for: loops, veiled, ifaces, maps, wideKeys, modest, calm, conditions, laid).
  DERIVED. THE GIVEN ROWS OF THIS SEAT. 6 by the template 'for every input the law returns true; each argument reads behind the call as it read before'; 0 by the template 'total and deterministic' (their statements: YtcidckcdfacplaaTotals.lean).
  GIVEN WITH THE SEED: the statements are not yours to turn. If you find one false, say at which input.
  Laid BY PROGRAM, IN A SANDBOX (cutbox-rows.mjs): the forced cells as the released guide's own fill.sh prints them over the translation 7d3a74574a743b77… (all of the seat's roots in one cut). By AI agents, Wed Nov 11 2026. No macro, syntax, notation, axiom, sorry.
-/
import Derived.Test.YtcidckcdfacplaaChecked
import GoSem.Claim
import GoSem.ClaimJoined
import GoSem.ClaimMapViews
import Derived.JoinedTies
import Derived.KernelRfl
namespace Go.Proofs.Ytcidckcdfacplaa
/- THE CELL 'sum', in the pinned program and in every row, IS THE sha256 OF THE DUMP (.gsa) THAT YtcidckcdfacplaaProg.lean LOADS. Nothing in Lean hashes anything: it is a label: what it is worth is what the hold of that sum in a sandbox is worth. -/
noncomputable def Try.pinned : Pinned := { name := "ytcidckcdfacplaa", sum := "7d3a74574a743b7784d438a9747f9f6d8ea3f12be0985214c3fdfbdab31a58f9", checked := Try.checked }
namespace Rows
def none {H : Type} : Left H := { results := [], args := [] }

/-- 'tattlerlaw05.HlcCompares': WHATEVER THE INPUT: true; the input reads as it did. -/
def hlcComparesSpec : ChangeSpec := { name := "hlcCompares", fn := fun _ => fun
  | [d1, d2] => { results := [.lit (.bool true)], args := [d1, d2] }
  | _ => none }
def hlcComparesRow : OpenClaim := { program := "ytcidckcdfacplaa", sum := "7d3a74574a743b7784d438a9747f9f6d8ea3f12be0985214c3fdfbdab31a58f9", func := "tattler/tattlerlaw05.HlcCompares", spec := "hlcCompares", apart := false }
def HlcComparesSaid : Prop := hlcComparesRow.holds Try.pinned (OpenSpec.ofChange hlcComparesSpec)

/-- ITS FALSE NEIGHBOUR: 'it returns false'. Refute it at one input. -/
def hlcComparesWrong : ChangeSpec := { name := "hlcCompares", fn := fun _ => fun
  | [d1, d2] => { results := [.lit (.bool false)], args := [d1, d2] }
  | _ => none }
def HlcComparesWrongFalsely : Prop := hlcComparesRow.holds Try.pinned (OpenSpec.ofChange hlcComparesWrong)

/-- 'tattlerlaw05.HlcForward': WHATEVER THE INPUT: true; the input reads as it did. -/
def hlcForwardSpec : ChangeSpec := { name := "hlcForward", fn := fun _ => fun
  | [d1, d2, d3, d4] => { results := [.lit (.bool true)], args := [d1, d2, d3, d4] }
  | _ => none }
def hlcForwardRow : OpenClaim := { program := "ytcidckcdfacplaa", sum := "7d3a74574a743b7784d438a9747f9f6d8ea3f12be0985214c3fdfbdab31a58f9", func := "tattler/tattlerlaw05.HlcForward", spec := "hlcForward", apart := false }
def HlcForwardSaid : Prop := hlcForwardRow.holds Try.pinned (OpenSpec.ofChange hlcForwardSpec)

/-- ITS FALSE NEIGHBOUR: 'it returns false'. Refute it at one input. -/
def hlcForwardWrong : ChangeSpec := { name := "hlcForward", fn := fun _ => fun
  | [d1, d2, d3, d4] => { results := [.lit (.bool false)], args := [d1, d2, d3, d4] }
  | _ => none }
def HlcForwardWrongFalsely : Prop := hlcForwardRow.holds Try.pinned (OpenSpec.ofChange hlcForwardWrong)

/-- 'tattlerlaw05.HlcPlays': WHATEVER THE INPUT: true; the input reads as it did. -/
def hlcPlaysSpec : ChangeSpec := { name := "hlcPlays", fn := fun _ => fun
  | [d1, d2, d3, d4, d5] => { results := [.lit (.bool true)], args := [d1, d2, d3, d4, d5] }
  | _ => none }
def hlcPlaysRow : OpenClaim := { program := "ytcidckcdfacplaa", sum := "7d3a74574a743b7784d438a9747f9f6d8ea3f12be0985214c3fdfbdab31a58f9", func := "tattler/tattlerlaw05.HlcPlays", spec := "hlcPlays", apart := false }
def HlcPlaysSaid : Prop := hlcPlaysRow.holds Try.pinned (OpenSpec.ofChange hlcPlaysSpec)

/-- ITS FALSE NEIGHBOUR: 'it returns false'. Refute it at one input. -/
def hlcPlaysWrong : ChangeSpec := { name := "hlcPlays", fn := fun _ => fun
  | [d1, d2, d3, d4, d5] => { results := [.lit (.bool false)], args := [d1, d2, d3, d4, d5] }
  | _ => none }
def HlcPlaysWrongFalsely : Prop := hlcPlaysRow.holds Try.pinned (OpenSpec.ofChange hlcPlaysWrong)

/-- 'tattlerlaw05.HlcBounded': WHATEVER THE INPUT: true; the input reads as it did. -/
def hlcBoundedSpec : ChangeSpec := { name := "hlcBounded", fn := fun _ => fun
  | [d1, d2, d3, d4] => { results := [.lit (.bool true)], args := [d1, d2, d3, d4] }
  | _ => none }
def hlcBoundedRow : OpenClaim := { program := "ytcidckcdfacplaa", sum := "7d3a74574a743b7784d438a9747f9f6d8ea3f12be0985214c3fdfbdab31a58f9", func := "tattler/tattlerlaw05.HlcBounded", spec := "hlcBounded", apart := false }
def HlcBoundedSaid : Prop := hlcBoundedRow.holds Try.pinned (OpenSpec.ofChange hlcBoundedSpec)

/-- ITS FALSE NEIGHBOUR: 'it returns false'. Refute it at one input. -/
def hlcBoundedWrong : ChangeSpec := { name := "hlcBounded", fn := fun _ => fun
  | [d1, d2, d3, d4] => { results := [.lit (.bool false)], args := [d1, d2, d3, d4] }
  | _ => none }
def HlcBoundedWrongFalsely : Prop := hlcBoundedRow.holds Try.pinned (OpenSpec.ofChange hlcBoundedWrong)

/-- 'tattlerlaw05.HlcLives': WHATEVER THE INPUT: true; the input reads as it did. -/
def hlcLivesSpec : ChangeSpec := { name := "hlcLives", fn := fun _ => fun
  | [d1, d2, d3, d4, d5] => { results := [.lit (.bool true)], args := [d1, d2, d3, d4, d5] }
  | _ => none }
def hlcLivesRow : OpenClaim := { program := "ytcidckcdfacplaa", sum := "7d3a74574a743b7784d438a9747f9f6d8ea3f12be0985214c3fdfbdab31a58f9", func := "tattler/tattlerlaw05.HlcLives", spec := "hlcLives", apart := false }
def HlcLivesSaid : Prop := hlcLivesRow.holds Try.pinned (OpenSpec.ofChange hlcLivesSpec)

/-- ITS FALSE NEIGHBOUR: 'it returns false'. Refute it at one input. -/
def hlcLivesWrong : ChangeSpec := { name := "hlcLives", fn := fun _ => fun
  | [d1, d2, d3, d4, d5] => { results := [.lit (.bool false)], args := [d1, d2, d3, d4, d5] }
  | _ => none }
def HlcLivesWrongFalsely : Prop := hlcLivesRow.holds Try.pinned (OpenSpec.ofChange hlcLivesWrong)

/-- 'tattlerlaw05.HlcNil': WHATEVER THE INPUT: true; the input reads as it did. -/
def hlcNilSpec : ChangeSpec := { name := "hlcNil", fn := fun _ => fun
  | [d1, d2] => { results := [.lit (.bool true)], args := [d1, d2] }
  | _ => none }
def hlcNilRow : OpenClaim := { program := "ytcidckcdfacplaa", sum := "7d3a74574a743b7784d438a9747f9f6d8ea3f12be0985214c3fdfbdab31a58f9", func := "tattler/tattlerlaw05.HlcNil", spec := "hlcNil", apart := false }
def HlcNilSaid : Prop := hlcNilRow.holds Try.pinned (OpenSpec.ofChange hlcNilSpec)

/-- ITS FALSE NEIGHBOUR: 'it returns false'. Refute it at one input. -/
def hlcNilWrong : ChangeSpec := { name := "hlcNil", fn := fun _ => fun
  | [d1, d2] => { results := [.lit (.bool false)], args := [d1, d2] }
  | _ => none }
def HlcNilWrongFalsely : Prop := hlcNilRow.holds Try.pinned (OpenSpec.ofChange hlcNilWrong)

/- THE SECOND FORM. 'bulk': how many values and letters a reading holds, each counted each time it is reached (what is shared counts as often as it is met; a slice's spare places count too). A statement '..UptoSaid' is the law's where the arguments, and the package variables that the reading takes, are together of bulk at most 1048576: NARROWER than '..Said'. Prove '..Said' where nothing that the law and all that it calls make is longer than what came in: it says more and counts as full. Else prove '..UptoSaid'. A law counts once. -/
mutual
def uptoBulk {H : Type} : DataW H → Nat
  | .lit (.string bytes) => bytes.length + 1
  | .lit _ => 1
  | .nil => 1
  | .ptr d => uptoBulk d + 1
  | .slice elems spare => uptoBulkAll elems + uptoBulkAll spare + 1
  | .agg parts => uptoBulkAll parts + 1
  | .iface _ d => uptoBulk d + 1
  | .map entries => uptoBulkEntries entries + 1
  | .held _ => 1
def uptoBulkAll {H : Type} : List (DataW H) → Nat
  | [] => 0
  | d :: r => uptoBulk d + uptoBulkAll r
def uptoBulkEntries {H : Type} : List (Lit × DataW H) → Nat
  | [] => 0
  | x :: r => uptoBulkEntry x + uptoBulkEntries r
def uptoBulkEntry {H : Type} : Lit × DataW H → Nat
  | (.string bytes, d) => bytes.length + uptoBulk d + 1
  | (_, d) => uptoBulk d + 1
 end
def uptoSmall : (H : Type) → List (DataW H) → Bool := fun _ ds => decide (uptoBulkAll ds ≤ 1048576)
def OpenSpec.upto (s : _root_.Go.ChangeSpec) : _root_.Go.OpenSpec := { _root_.Go.OpenSpec.ofChange s with cond := some uptoSmall }

/-- 'tattlerlaw05.HlcCompares', WHERE WHAT IT READS IS OF BULK AT MOST 1048576: true; the input reads as it did. -/
def hlcComparesUptoRow : OpenClaim := { program := "ytcidckcdfacplaa", sum := "7d3a74574a743b7784d438a9747f9f6d8ea3f12be0985214c3fdfbdab31a58f9", func := "tattler/tattlerlaw05.HlcCompares", spec := "hlcCompares", apart := false, narrowed := true }
def HlcComparesUptoSaid : Prop := hlcComparesUptoRow.holds Try.pinned (OpenSpec.upto hlcComparesSpec)

/-- 'tattlerlaw05.HlcForward', WHERE WHAT IT READS IS OF BULK AT MOST 1048576: true; the input reads as it did. -/
def hlcForwardUptoRow : OpenClaim := { program := "ytcidckcdfacplaa", sum := "7d3a74574a743b7784d438a9747f9f6d8ea3f12be0985214c3fdfbdab31a58f9", func := "tattler/tattlerlaw05.HlcForward", spec := "hlcForward", apart := false, narrowed := true }
def HlcForwardUptoSaid : Prop := hlcForwardUptoRow.holds Try.pinned (OpenSpec.upto hlcForwardSpec)

/-- 'tattlerlaw05.HlcPlays', WHERE WHAT IT READS IS OF BULK AT MOST 1048576: true; the input reads as it did. -/
def hlcPlaysUptoRow : OpenClaim := { program := "ytcidckcdfacplaa", sum := "7d3a74574a743b7784d438a9747f9f6d8ea3f12be0985214c3fdfbdab31a58f9", func := "tattler/tattlerlaw05.HlcPlays", spec := "hlcPlays", apart := false, narrowed := true }
def HlcPlaysUptoSaid : Prop := hlcPlaysUptoRow.holds Try.pinned (OpenSpec.upto hlcPlaysSpec)

/-- 'tattlerlaw05.HlcBounded', WHERE WHAT IT READS IS OF BULK AT MOST 1048576: true; the input reads as it did. -/
def hlcBoundedUptoRow : OpenClaim := { program := "ytcidckcdfacplaa", sum := "7d3a74574a743b7784d438a9747f9f6d8ea3f12be0985214c3fdfbdab31a58f9", func := "tattler/tattlerlaw05.HlcBounded", spec := "hlcBounded", apart := false, narrowed := true }
def HlcBoundedUptoSaid : Prop := hlcBoundedUptoRow.holds Try.pinned (OpenSpec.upto hlcBoundedSpec)

/-- 'tattlerlaw05.HlcLives', WHERE WHAT IT READS IS OF BULK AT MOST 1048576: true; the input reads as it did. -/
def hlcLivesUptoRow : OpenClaim := { program := "ytcidckcdfacplaa", sum := "7d3a74574a743b7784d438a9747f9f6d8ea3f12be0985214c3fdfbdab31a58f9", func := "tattler/tattlerlaw05.HlcLives", spec := "hlcLives", apart := false, narrowed := true }
def HlcLivesUptoSaid : Prop := hlcLivesUptoRow.holds Try.pinned (OpenSpec.upto hlcLivesSpec)

/-- 'tattlerlaw05.HlcNil', WHERE WHAT IT READS IS OF BULK AT MOST 1048576: true; the input reads as it did. -/
def hlcNilUptoRow : OpenClaim := { program := "ytcidckcdfacplaa", sum := "7d3a74574a743b7784d438a9747f9f6d8ea3f12be0985214c3fdfbdab31a58f9", func := "tattler/tattlerlaw05.HlcNil", spec := "hlcNil", apart := false, narrowed := true }
def HlcNilUptoSaid : Prop := hlcNilUptoRow.holds Try.pinned (OpenSpec.upto hlcNilSpec)

end Rows
end Go.Proofs.Ytcidckcdfacplaa

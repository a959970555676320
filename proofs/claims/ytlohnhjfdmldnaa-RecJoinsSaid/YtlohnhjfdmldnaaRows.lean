/-
  No cell of these rows narrows 'for every input' (looked for: loops, veiled, ifaces, maps, wideKeys, modest, calm, conditions, laid).
  DERIVED. THE GIVEN ROWS OF THIS SEAT. 7 by the template 'for every input the law returns true; each argument reads behind the call as it read before'; 0 by the template 'total and deterministic' (their statements: YtlohnhjfdmldnaaTotals.lean).
  GIVEN WITH THE SEED: the statements are not yours to turn. If you find one false, say at which input.
  Laid BY PROGRAM, IN A SANDBOX (cutbox-rows.mjs): the forced cells as the released guide's own fill.sh prints them over the translation e49fec2420fa8456… (all of the seat's roots in one cut). By AI agents, Wed Nov 11 2026. No macro, syntax, notation, axiom, sorry.
-/
import Derived.Test.YtlohnhjfdmldnaaChecked
import GoSem.Claim
import GoSem.ClaimJoined
import GoSem.ClaimMapViews
import Derived.JoinedTies
import Derived.KernelRfl
namespace Go.Proofs.Ytlohnhjfdmldnaa
/- THE CELL 'sum', in the pinned program and in every row, IS THE sha256 OF THE DUMP (.gsa) THAT YtlohnhjfdmldnaaProg.lean LOADS. Nothing in Lean hashes anything: it is a label: what it is worth is what the hold of that sum in a sandbox is worth. -/
noncomputable def Try.pinned : Pinned := { name := "ytlohnhjfdmldnaa", sum := "e49fec2420fa8456cb454ade7b33fea3e21f611691da2b616b363a1a96b8659a", checked := Try.checked }
namespace Rows
def none {H : Type} : Left H := { results := [], args := [] }

/-- 'tattlerlaw06.RecOrder': WHATEVER THE INPUT: true; the input reads as it did. -/
def recOrderSpec : ChangeSpec := { name := "recOrder", fn := fun _ => fun
  | [d1, d2, d3] => { results := [.lit (.bool true)], args := [d1, d2, d3] }
  | _ => none }
def recOrderRow : OpenClaim := { program := "ytlohnhjfdmldnaa", sum := "e49fec2420fa8456cb454ade7b33fea3e21f611691da2b616b363a1a96b8659a", func := "tattler/tattlerlaw06.RecOrder", spec := "recOrder", inPlace := ["internal/bytealg.abigen_runtime_cmpstring"], apart := false }
def RecOrderSaid : Prop := recOrderRow.holds Try.pinned (OpenSpec.ofChange recOrderSpec)

/-- ITS FALSE NEIGHBOUR: 'it returns false'. Refute it at one input. -/
def recOrderWrong : ChangeSpec := { name := "recOrder", fn := fun _ => fun
  | [d1, d2, d3] => { results := [.lit (.bool false)], args := [d1, d2, d3] }
  | _ => none }
def RecOrderWrongFalsely : Prop := recOrderRow.holds Try.pinned (OpenSpec.ofChange recOrderWrong)

/-- 'tattlerlaw06.RecOver': WHATEVER THE INPUT: true; the input reads as it did. -/
def recOverSpec : ChangeSpec := { name := "recOver", fn := fun _ => fun
  | [d1, d2, d3] => { results := [.lit (.bool true)], args := [d1, d2, d3] }
  | _ => none }
def recOverRow : OpenClaim := { program := "ytlohnhjfdmldnaa", sum := "e49fec2420fa8456cb454ade7b33fea3e21f611691da2b616b363a1a96b8659a", func := "tattler/tattlerlaw06.RecOver", spec := "recOver", inPlace := ["internal/bytealg.abigen_runtime_cmpstring"], apart := false }
def RecOverSaid : Prop := recOverRow.holds Try.pinned (OpenSpec.ofChange recOverSpec)

/-- ITS FALSE NEIGHBOUR: 'it returns false'. Refute it at one input. -/
def recOverWrong : ChangeSpec := { name := "recOver", fn := fun _ => fun
  | [d1, d2, d3] => { results := [.lit (.bool false)], args := [d1, d2, d3] }
  | _ => none }
def RecOverWrongFalsely : Prop := recOverRow.holds Try.pinned (OpenSpec.ofChange recOverWrong)

/-- 'tattlerlaw06.RecOrders': WHATEVER THE INPUT: true; the input reads as it did. -/
def recOrdersSpec : ChangeSpec := { name := "recOrders", fn := fun _ => fun
  | [d1, d2] => { results := [.lit (.bool true)], args := [d1, d2] }
  | _ => none }
def recOrdersRow : OpenClaim := { program := "ytlohnhjfdmldnaa", sum := "e49fec2420fa8456cb454ade7b33fea3e21f611691da2b616b363a1a96b8659a", func := "tattler/tattlerlaw06.RecOrders", spec := "recOrders", inPlace := ["internal/bytealg.abigen_runtime_cmpstring"], apart := false }
def RecOrdersSaid : Prop := recOrdersRow.holds Try.pinned (OpenSpec.ofChange recOrdersSpec)

/-- ITS FALSE NEIGHBOUR: 'it returns false'. Refute it at one input. -/
def recOrdersWrong : ChangeSpec := { name := "recOrders", fn := fun _ => fun
  | [d1, d2] => { results := [.lit (.bool false)], args := [d1, d2] }
  | _ => none }
def RecOrdersWrongFalsely : Prop := recOrdersRow.holds Try.pinned (OpenSpec.ofChange recOrdersWrong)

/-- 'tattlerlaw06.RecJoins': WHATEVER THE INPUT: true; the input reads as it did. -/
def recJoinsSpec : ChangeSpec := { name := "recJoins", fn := fun _ => fun
  | [d1, d2, d3] => { results := [.lit (.bool true)], args := [d1, d2, d3] }
  | _ => none }
def recJoinsRow : OpenClaim := { program := "ytlohnhjfdmldnaa", sum := "e49fec2420fa8456cb454ade7b33fea3e21f611691da2b616b363a1a96b8659a", func := "tattler/tattlerlaw06.RecJoins", spec := "recJoins", inPlace := ["internal/bytealg.abigen_runtime_cmpstring"], apart := false }
def RecJoinsSaid : Prop := recJoinsRow.holds Try.pinned (OpenSpec.ofChange recJoinsSpec)

/-- ITS FALSE NEIGHBOUR: 'it returns false'. Refute it at one input. -/
def recJoinsWrong : ChangeSpec := { name := "recJoins", fn := fun _ => fun
  | [d1, d2, d3] => { results := [.lit (.bool false)], args := [d1, d2, d3] }
  | _ => none }
def RecJoinsWrongFalsely : Prop := recJoinsRow.holds Try.pinned (OpenSpec.ofChange recJoinsWrong)

/-- 'tattlerlaw06.RecMay': WHATEVER THE INPUT: true; the input reads as it did. -/
def recMaySpec : ChangeSpec := { name := "recMay", fn := fun _ => fun
  | [d1, d2] => { results := [.lit (.bool true)], args := [d1, d2] }
  | _ => none }
def recMayRow : OpenClaim := { program := "ytlohnhjfdmldnaa", sum := "e49fec2420fa8456cb454ade7b33fea3e21f611691da2b616b363a1a96b8659a", func := "tattler/tattlerlaw06.RecMay", spec := "recMay", inPlace := ["internal/bytealg.abigen_runtime_cmpstring"], apart := false }
def RecMaySaid : Prop := recMayRow.holds Try.pinned (OpenSpec.ofChange recMaySpec)

/-- ITS FALSE NEIGHBOUR: 'it returns false'. Refute it at one input. -/
def recMayWrong : ChangeSpec := { name := "recMay", fn := fun _ => fun
  | [d1, d2] => { results := [.lit (.bool false)], args := [d1, d2] }
  | _ => none }
def RecMayWrongFalsely : Prop := recMayRow.holds Try.pinned (OpenSpec.ofChange recMayWrong)

/-- 'tattlerlaw06.RecPuts': WHATEVER THE INPUT: true; the input reads as it did. -/
def recPutsSpec : ChangeSpec := { name := "recPuts", fn := fun _ => fun
  | [d1, d2, d3] => { results := [.lit (.bool true)], args := [d1, d2, d3] }
  | _ => none }
def recPutsRow : OpenClaim := { program := "ytlohnhjfdmldnaa", sum := "e49fec2420fa8456cb454ade7b33fea3e21f611691da2b616b363a1a96b8659a", func := "tattler/tattlerlaw06.RecPuts", spec := "recPuts", inPlace := ["internal/bytealg.abigen_runtime_cmpstring"], apart := false }
def RecPutsSaid : Prop := recPutsRow.holds Try.pinned (OpenSpec.ofChange recPutsSpec)

/-- ITS FALSE NEIGHBOUR: 'it returns false'. Refute it at one input. -/
def recPutsWrong : ChangeSpec := { name := "recPuts", fn := fun _ => fun
  | [d1, d2, d3] => { results := [.lit (.bool false)], args := [d1, d2, d3] }
  | _ => none }
def RecPutsWrongFalsely : Prop := recPutsRow.holds Try.pinned (OpenSpec.ofChange recPutsWrong)

/-- 'tattlerlaw06.RecGets': WHATEVER THE INPUT: true; the input reads as it did. -/
def recGetsSpec : ChangeSpec := { name := "recGets", fn := fun _ => fun
  | [d1, d2] => { results := [.lit (.bool true)], args := [d1, d2] }
  | _ => none }
def recGetsRow : OpenClaim := { program := "ytlohnhjfdmldnaa", sum := "e49fec2420fa8456cb454ade7b33fea3e21f611691da2b616b363a1a96b8659a", func := "tattler/tattlerlaw06.RecGets", spec := "recGets", inPlace := ["internal/bytealg.abigen_runtime_cmpstring"], apart := false }
def RecGetsSaid : Prop := recGetsRow.holds Try.pinned (OpenSpec.ofChange recGetsSpec)

/-- ITS FALSE NEIGHBOUR: 'it returns false'. Refute it at one input. -/
def recGetsWrong : ChangeSpec := { name := "recGets", fn := fun _ => fun
  | [d1, d2] => { results := [.lit (.bool false)], args := [d1, d2] }
  | _ => none }
def RecGetsWrongFalsely : Prop := recGetsRow.holds Try.pinned (OpenSpec.ofChange recGetsWrong)

/- THE SECOND FORM. 'bulk': how many values and letters a reading holds, each counted each time it is reached (what is shared counts as often as it is met; a slice's spare places count too). A statement '..UptoSaid' is the law's where the arguments, and the package variables that the reading takes, are together of bulk at most 1048576: NARROWER than '..Said'. Prove '..Said' where nothing that the law and all that it calls make is longer than what came in: it says more and counts as full. Else prove '..UptoSaid'. A law counts once. -/
mutual
def uptoBulk {H : Type} : DataW H → Nat
  | .lit (.string bytes) => bytes.length + 1
  | .lit _ => 1
  | .nil => 1
  | .ptr d => uptoBulk d + 1
  | .slice elems spare => uptoBulkAll elems + uptoBulkAll spare + 1
  | .agg parts => uptoBulkAll parts + 1
  | .iface _ d => uptoBulk d + 1
  | .map entries => uptoBulkEntries entries + 1
  | .held _ => 1
def uptoBulkAll {H : Type} : List (DataW H) → Nat
  | [] => 0
  | d :: r => uptoBulk d + uptoBulkAll r
def uptoBulkEntries {H : Type} : List (Lit × DataW H) → Nat
  | [] => 0
  | x :: r => uptoBulkEntry x + uptoBulkEntries r
def uptoBulkEntry {H : Type} : Lit × DataW H → Nat
  | (.string bytes, d) => bytes.length + uptoBulk d + 1
  | (_, d) => uptoBulk d + 1
 end
def uptoSmall : (H : Type) → List (DataW H) → Bool := fun _ ds => decide (uptoBulkAll ds ≤ 1048576)
def OpenSpec.upto (s : _root_.Go.ChangeSpec) : _root_.Go.OpenSpec := { _root_.Go.OpenSpec.ofChange s with cond := some uptoSmall }

/-- 'tattlerlaw06.RecOrder', WHERE WHAT IT READS IS OF BULK AT MOST 1048576: true; the input reads as it did. -/
def recOrderUptoRow : OpenClaim := { program := "ytlohnhjfdmldnaa", sum := "e49fec2420fa8456cb454ade7b33fea3e21f611691da2b616b363a1a96b8659a", func := "tattler/tattlerlaw06.RecOrder", spec := "recOrder", inPlace := ["internal/bytealg.abigen_runtime_cmpstring"], apart := false, narrowed := true }
def RecOrderUptoSaid : Prop := recOrderUptoRow.holds Try.pinned (OpenSpec.upto recOrderSpec)

/-- 'tattlerlaw06.RecOver', WHERE WHAT IT READS IS OF BULK AT MOST 1048576: true; the input reads as it did. -/
def recOverUptoRow : OpenClaim := { program := "ytlohnhjfdmldnaa", sum := "e49fec2420fa8456cb454ade7b33fea3e21f611691da2b616b363a1a96b8659a", func := "tattler/tattlerlaw06.RecOver", spec := "recOver", inPlace := ["internal/bytealg.abigen_runtime_cmpstring"], apart := false, narrowed := true }
def RecOverUptoSaid : Prop := recOverUptoRow.holds Try.pinned (OpenSpec.upto recOverSpec)

/-- 'tattlerlaw06.RecOrders', WHERE WHAT IT READS IS OF BULK AT MOST 1048576: true; the input reads as it did. -/
def recOrdersUptoRow : OpenClaim := { program := "ytlohnhjfdmldnaa", sum := "e49fec2420fa8456cb454ade7b33fea3e21f611691da2b616b363a1a96b8659a", func := "tattler/tattlerlaw06.RecOrders", spec := "recOrders", inPlace := ["internal/bytealg.abigen_runtime_cmpstring"], apart := false, narrowed := true }
def RecOrdersUptoSaid : Prop := recOrdersUptoRow.holds Try.pinned (OpenSpec.upto recOrdersSpec)

/-- 'tattlerlaw06.RecJoins', WHERE WHAT IT READS IS OF BULK AT MOST 1048576: true; the input reads as it did. -/
def recJoinsUptoRow : OpenClaim := { program := "ytlohnhjfdmldnaa", sum := "e49fec2420fa8456cb454ade7b33fea3e21f611691da2b616b363a1a96b8659a", func := "tattler/tattlerlaw06.RecJoins", spec := "recJoins", inPlace := ["internal/bytealg.abigen_runtime_cmpstring"], apart := false, narrowed := true }
def RecJoinsUptoSaid : Prop := recJoinsUptoRow.holds Try.pinned (OpenSpec.upto recJoinsSpec)

/-- 'tattlerlaw06.RecMay', WHERE WHAT IT READS IS OF BULK AT MOST 1048576: true; the input reads as it did. -/
def recMayUptoRow : OpenClaim := { program := "ytlohnhjfdmldnaa", sum := "e49fec2420fa8456cb454ade7b33fea3e21f611691da2b616b363a1a96b8659a", func := "tattler/tattlerlaw06.RecMay", spec := "recMay", inPlace := ["internal/bytealg.abigen_runtime_cmpstring"], apart := false, narrowed := true }
def RecMayUptoSaid : Prop := recMayUptoRow.holds Try.pinned (OpenSpec.upto recMaySpec)

/-- 'tattlerlaw06.RecPuts', WHERE WHAT IT READS IS OF BULK AT MOST 1048576: true; the input reads as it did. -/
def recPutsUptoRow : OpenClaim := { program := "ytlohnhjfdmldnaa", sum := "e49fec2420fa8456cb454ade7b33fea3e21f611691da2b616b363a1a96b8659a", func := "tattler/tattlerlaw06.RecPuts", spec := "recPuts", inPlace := ["internal/bytealg.abigen_runtime_cmpstring"], apart := false, narrowed := true }
def RecPutsUptoSaid : Prop := recPutsUptoRow.holds Try.pinned (OpenSpec.upto recPutsSpec)

/-- 'tattlerlaw06.RecGets', WHERE WHAT IT READS IS OF BULK AT MOST 1048576: true; the input reads as it did. -/
def recGetsUptoRow : OpenClaim := { program := "ytlohnhjfdmldnaa", sum := "e49fec2420fa8456cb454ade7b33fea3e21f611691da2b616b363a1a96b8659a", func := "tattler/tattlerlaw06.RecGets", spec := "recGets", inPlace := ["internal/bytealg.abigen_runtime_cmpstring"], apart := false, narrowed := true }
def RecGetsUptoSaid : Prop := recGetsUptoRow.holds Try.pinned (OpenSpec.upto recGetsSpec)

end Rows
end Go.Proofs.Ytlohnhjfdmldnaa

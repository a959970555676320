-- Printed by a program of this session over its told contracts; Lean checks it.
import Derived.Test.YthinmioognadpaaDoorProg
import Derived.Test.YthinmioognadpaaDoorTold
import Derived.Below
import Derived.Deep.Draws
import Derived.Deep.AppendLies
import Derived.Maps.AppendAt
import Derived.OwnWalk
import Derived.Laws.BytesArg
import Derived.Laws.MakeOwn
import Derived.Laws.OwnMore
import Derived.Deep.OwnRows
import Derived.Tactics
import Derived.Lib.ConvBytes
import Derived.Laws.Slices
import Derived.WalkKit
import Derived.KernelRfl
import Derived.RowKit3
import Derived.Deep.LoopGhost
import Derived.Deep.QuietTactic
import Derived.BigQuiet
import Derived.WideLaws
import Derived.Deep.DeepCutAuto
import Derived.Deep.CutBlock
import Derived.Deep.RegionHeld3
import Derived.Laws.Rows
import Derived.Lib.AppendStr
import Derived.ArgAppend
import Derived.Laws.IdiomCopy
import Derived.OrdersHeld
import Derived.Laws.BitsLemmas
import Derived.RowKit
import Derived.Test.YthinmioognadpaaDoorWWords
import Derived.Test.YthinmioognadpaaDoorWLast
import Derived.Test.YthinmioognadpaaDoorWTab
import Derived.Test.YthinmioognadpaaDoorWFour
import Derived.Test.YthinmioognadpaaDoorWQPut
import Derived.Test.YthinmioognadpaaDoorWApart
import Derived.Test.YthinmioognadpaaDoorWArr
import Derived.Test.YthinmioognadpaaDoorWZeros
import Derived.Test.YthinmioognadpaaDoorWFoot
import Derived.Test.YthinmioognadpaaDoorWKept
import Derived.Test.YthinmioognadpaaDoorWShare
import Derived.Test.YthinmioognadpaaDoorWN
import Derived.Test.YthinmioognadpaaDoorWFootNe
import Derived.Test.YthinmioognadpaaDoorWAt
import Derived.Test.YthinmioognadpaaDoorWEqStruct
import Derived.Test.YthinmioognadpaaDoorWRepsOne
import Derived.Test.YthinmioognadpaaDoorWInv
import Derived.Test.YthinmioognadpaaDoorWInvWords
import Derived.Test.YthinmioognadpaaDoorWGuard
import Derived.Test.YthinmioognadpaaDoorWNEv
import Derived.Test.YthinmioognadpaaDoorWMore
namespace Go.Proofs.YthinmioognadpaaDoor.PFeedB
open Go.RowKit Go.Proofs.YthinmioognadpaaDoorW.PrintWords Go.Proofs.YthinmioognadpaaDoorW.PrintLast Go.Proofs.YthinmioognadpaaDoorW.PrintMore
attribute [local go_sem] max2_int min2_int max_two min_two max_three min_three max_four min_four   -- for this text's walks alone
set_option linter.unusedVariables false
set_option linter.unusedSimpArgs false



def errW : Option Int → Value
  | none => .nilIface
  | some c => .iface 0 (.int .i64 c)
theorem errW_none : errW none = .nilIface := rfl
theorem errW_some (c : Int) : errW (some c) = .iface 0 (.int .i64 c) := rfl

-- the values' own types

end Go.Proofs.YthinmioognadpaaDoor.PFeedB

-- Printed by a program of this session over its told contracts; Lean checks it.
import Derived.Test.YtnbcbokdbenbiaaProg
import Derived.Test.YtnbcbokdbenbiaaAskPlain
import Derived.Below
import Derived.Deep.Draws
import Derived.Deep.AppendLies
import Derived.Maps.AppendAt
import Derived.OwnWalk
import Derived.Laws.BytesArg
import Derived.Laws.MakeOwn
import Derived.Laws.OwnMore
import Derived.Deep.OwnRows
import Derived.Tactics
import Derived.Lib.ConvBytes
import Derived.Laws.Slices
import Derived.WalkKit
import Derived.KernelRfl
import Derived.RowKit3
import Derived.Deep.LoopGhost
import Derived.Deep.QuietTactic
import Derived.BigQuiet
import Derived.WideLaws
import Derived.Deep.DeepCutAuto
import Derived.Deep.CutBlock
import Derived.Deep.RegionHeld3
import Derived.Laws.Rows
import Derived.Lib.AppendStr
import Derived.ArgAppend
import Derived.Laws.IdiomCopy
import Derived.OrdersHeld
import Derived.Laws.BitsLemmas
import Derived.RowKit
import Derived.Test.YtnbcbokdbenbiaaWWords
import Derived.Test.YtnbcbokdbenbiaaWLast
import Derived.Test.YtnbcbokdbenbiaaWTab
import Derived.Test.YtnbcbokdbenbiaaWFour
import Derived.Test.YtnbcbokdbenbiaaWQPut
import Derived.Test.YtnbcbokdbenbiaaWApart
import Derived.Test.YtnbcbokdbenbiaaWArr
import Derived.Test.YtnbcbokdbenbiaaWZeros
import Derived.Test.YtnbcbokdbenbiaaWFoot
import Derived.Test.YtnbcbokdbenbiaaWKept
import Derived.Test.YtnbcbokdbenbiaaWShare
import Derived.Test.YtnbcbokdbenbiaaWN
import Derived.Test.YtnbcbokdbenbiaaWFootNe
import Derived.Test.YtnbcbokdbenbiaaWAt
import Derived.Test.YtnbcbokdbenbiaaWEqStruct
import Derived.Test.YtnbcbokdbenbiaaWRepsOne
import Derived.Test.YtnbcbokdbenbiaaWInv
import Derived.Test.YtnbcbokdbenbiaaWInvWords
import Derived.Test.YtnbcbokdbenbiaaWGuard
import Derived.Test.YtnbcbokdbenbiaaWNEv
import Derived.Test.YtnbcbokdbenbiaaWMore
namespace Go.Proofs.Ytnbcbokdbenbiaa.PAsk
open Go.RowKit Go.Proofs.YtnbcbokdbenbiaaW.PrintWords Go.Proofs.YtnbcbokdbenbiaaW.PrintLast Go.Proofs.YtnbcbokdbenbiaaW.PrintMore
attribute [local go_sem] max2_int min2_int max_two min_two max_three min_three max_four min_four   -- for this text's walks alone
set_option linter.unusedVariables false
set_option linter.unusedSimpArgs false



def errW : Option Int → Value
  | none => .nilIface
  | some c => .iface 0 (.int .i64 c)
theorem errW_none : errW none = .nilIface := rfl
theorem errW_some (c : Int) : errW (some c) = .iface 0 (.int .i64 c) := rfl

-- the values' own types

end Go.Proofs.Ytnbcbokdbenbiaa.PAsk

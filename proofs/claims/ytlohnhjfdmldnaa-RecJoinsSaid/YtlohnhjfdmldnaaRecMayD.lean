/- Which records may be, which are live, and the reference's order: the walks (own text; printed by wip/tools/gen_recref.py, a program of this session). -/
import Derived.Test.YtlohnhjfdmldnaaRecKey
namespace Go.Proofs.Ytlohnhjfdmldnaa.Rec
open Go.RowKit Go.Proofs.Ytlohnhjfdmldnaa.Mem Go.Proofs.Ytlohnhjfdmldnaa.Hlc Go.Proofs.Ytlohnhjfdmldnaa
set_option linter.unusedVariables false
set_option linter.unusedSimpArgs false
/-- Which records may be. -/
def mayR (rk : ByteArray) (rp rn rd rf rx : Int) (rb : ByteArray) : Bool := if keyMay rk = false then false else
  if 281474976710655 < rp then false else
  if 63 < rn then false else
  if 281474976710655 < rx then false else
  if 1024 < rb.size then false else
  if rd = 3 then true else
  if rd = 1 then (if rf = 0 then (if rx = 0 then (if rb.size = 0 then true else
  false) else
  false) else
  false) else
  if rd = 2 then (if rf = 0 then (if rx = 0 then (if rb.size = 0 then true else
  false) else
  false) else
  false) else
  false
end Go.Proofs.Ytlohnhjfdmldnaa.Rec

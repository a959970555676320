/- Short names for lemmas of the print's words that a long printed text names very often (own text). -/
import Derived.Test.YtbgoedhpndflpaaDoorWMore
import Derived.Test.YtbgoedhpndflpaaDoorWWords
import Derived.Test.YtbgoedhpndflpaaDoorWShare
import Derived.Test.YtbgoedhpndflpaaDoorWAt
namespace Go.Proofs.YtbgoedhpndflpaaDoor
open Go.RowKit Go.Proofs.YtbgoedhpndflpaaDoorW.PrintWords Go.Proofs.YtbgoedhpndflpaaDoorW.PrintLast Go.Proofs.YtbgoedhpndflpaaDoorW.PrintMore
abbrev bA := @blk_alloc
abbrev bN := @blk_drewN
abbrev bD := @blk_drew
abbrev qA := @below_alloc
abbrev qN := @pw_below_drewN
abbrev qD := @below_drew1
abbrev rA := @Kd.R_alloc
abbrev rN := @Kd.R_drewN
abbrev rD := @Kd.R_drew
theorem zadd {a : Addr} {g : Nat} (h : a.block ≠ g) (k : Nat) : (a.add k).block ≠ g := by rw [add_block]; exact h
end Go.Proofs.YtbgoedhpndflpaaDoor

/- Short names for lemmas of the print's words that a long printed text names very often (own text). -/
import Derived.Test.YtpfggidfcbgaiaaDoorWMore
import Derived.Test.YtpfggidfcbgaiaaDoorWWords
import Derived.Test.YtpfggidfcbgaiaaDoorWShare
import Derived.Test.YtpfggidfcbgaiaaDoorWAt
namespace Go.Proofs.YtpfggidfcbgaiaaDoor
open Go.RowKit Go.Proofs.YtpfggidfcbgaiaaDoorW.PrintWords Go.Proofs.YtpfggidfcbgaiaaDoorW.PrintLast Go.Proofs.YtpfggidfcbgaiaaDoorW.PrintMore
abbrev bA := @blk_alloc
abbrev bN := @blk_drewN
abbrev bD := @blk_drew
abbrev qA := @below_alloc
abbrev qN := @pw_below_drewN
abbrev qD := @below_drew1
abbrev rA := @Kd.R_alloc
abbrev rN := @Kd.R_drewN
abbrev rD := @Kd.R_drew
end Go.Proofs.YtpfggidfcbgaiaaDoor

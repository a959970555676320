-- Printed by a program of this session over its told contracts; Lean checks it.
import Derived.Test.YtbgoedhpndflpaaDoorPSayx0
namespace Go.Proofs.YtbgoedhpndflpaaDoor.PSay
open Go.RowKit Go.Proofs.YtbgoedhpndflpaaDoorW.PrintWords Go.Proofs.YtbgoedhpndflpaaDoorW.PrintLast Go.Proofs.YtbgoedhpndflpaaDoorW.PrintMore
attribute [local go_sem] max2_int min2_int max_two min_two max_three min_three max_four min_four   -- for this text's walks alone
set_option linter.unusedVariables false
set_option linter.unusedSimpArgs false

theorem eqA28 (d : Nat) (w : World) (x0 y0 : Int) (x1 y1 : Int) (x2 y2 : Int) :
    (Op.equalIn (d + 2) 28 (.agg #[.int .u64 x0, .int .u32 x1, .int .u8 x2]) (.agg #[.int .u64 y0, .int .u32 y1, .int .u8 y2])).run Tryd.prog w = .ok (x0 == y0 && (x1 == y1 && (x2 == y2))) w := by
  refine eqA_of Tryd.underlying28 (by kernel_rfl) ?_
  refine eqf_cons (by rfl) (by go_simp; rfl) (by go_simp; rfl) (by go_simp) ?_
  refine eqf_cons (by rfl) (by go_simp; rfl) (by go_simp; rfl) (by go_simp) ?_
  exact eqf_last (by rfl) (by go_simp; rfl) (by go_simp; rfl) (by go_simp)
theorem eqA30 (d : Nat) (w : World) (x0 y0 : ByteArray) (x1 y1 : Int) (x2 y2 : Int) (x3 y3 : Int) (x4 y4 : Int) (x5 y5 : Int) (x6 y6 : Int) (x7 y7 : ByteArray) :
    (Op.equalIn (d + 3) 30 (.agg #[.string x0, .int .u64 x1, .int .u32 x2, .int .u8 x3, .int .u8 x4, .int .u32 x5, .int .u64 x6, .string x7]) (.agg #[.string y0, .int .u64 y1, .int .u32 y2, .int .u8 y3, .int .u8 y4, .int .u32 y5, .int .u64 y6, .string y7])).run Tryd.prog w = .ok (x0.toList == y0.toList && ((x1 == y1 && (x2 == y2 && (x3 == y3))) && (x4 == y4 && (x5 == y5 && (x6 == y6 && (x7.toList == y7.toList)))))) w := by
  refine eqA_of Tryd.underlying30 (by kernel_rfl) ?_
  refine eqf_cons (by rfl) (by go_simp; rfl) (by go_simp; rfl) (by go_simp) ?_
  refine eqf_cons (by rfl) (by go_simp) (by go_simp) (eqA28 (d + 0) w _ _ _ _ _ _) ?_
  refine eqf_cons (by rfl) (by go_simp; rfl) (by go_simp; rfl) (by go_simp) ?_
  refine eqf_cons (by rfl) (by go_simp; rfl) (by go_simp; rfl) (by go_simp) ?_
  refine eqf_cons (by rfl) (by go_simp; rfl) (by go_simp; rfl) (by go_simp) ?_
  exact eqf_last (by rfl) (by go_simp; rfl) (by go_simp; rfl) (by go_simp)
end Go.Proofs.YtbgoedhpndflpaaDoor.PSay

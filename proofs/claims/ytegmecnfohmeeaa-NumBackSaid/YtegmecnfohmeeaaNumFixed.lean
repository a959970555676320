/- The chapter's examples hold (own text). -/
import Derived.Test.YtegmecnfohmeeaaNumText
namespace Go.Proofs.Ytegmecnfohmeeaa.Num
open Go.RowKit Go.Proofs.YtegmecnfohmeeaaW.PrintWords Go.Proofs.YtegmecnfohmeeaaW.PrintLast Go.Proofs.YtegmecnfohmeeaaW.PrintMore
set_option linter.unusedVariables false
set_option linter.unusedSimpArgs false

theorem put5 (w : World) : Calls Try.prog 9 #[.int .u64 5] w fun e w' => e = .returned (.tuple #[.string ⟨#[5]⟩, .int .i64 0]) ∧ Below w.heap.size w w' :=
  (put0 5 w (by decide) (by decide)).mono fun e w' h => h
theorem put20000 (w : World) : Calls Try.prog 9 #[.int .u64 20000] w fun e w' => e = .returned (.tuple #[.string ⟨#[128, 0, 78, 32]⟩, .int .i64 0]) ∧ Below w.heap.size w w' :=
  (put2 20000 w (by decide) (by decide)).mono fun e w' h => h
theorem getEx (w : World) : Calls Try.prog 11 #[.string ⟨#[64, 5]⟩, .int .i64 0] w fun e w' => e = .returned (.tuple #[.int .u64 0, .int .i64 0, .int .i64 3]) ∧ ∃ n, w' = w.drewN n := by
  refine (get_any ⟨#[64, 5]⟩ 0 w (by decide)).mono fun e w' h => ?_
  have h1 : getS ⟨#[64, 5]⟩ 0 = (0, 0, 3) := by decide
  rw [h1] at h
  exact h
set_option maxHeartbeats 400000 in
theorem fixed_any (w : World) : Calls Try.prog 8 #[] w fun e w' => e = .returned (.bool true) ∧ Below w.heap.size w w' := by
  go_enter Try.func8, Try.ntmps8
  go_wp2_with (first | (go_at_call 9; (with_reducible refine (put5 _).mono ?_); rintro e w1 ⟨rfl, hb1⟩) | (go_at_call 9; (with_reducible refine (put20000 _).mono ?_); rintro e w2 ⟨rfl, hb2⟩) | (go_at_call 11; (with_reducible refine (getEx _).mono ?_); rintro e w3 ⟨rfl, nd, rfl⟩))
  go_ret
  exact ⟨rfl, pw_below_drewN (below_step hb1 hb2) nd⟩
end Go.Proofs.Ytegmecnfohmeeaa.Num

-- Printed by a program of this session over its told contracts; Lean checks it.
import Derived.Test.YtlohnhjfdmldnaaPRecJoinsx0
import Derived.Test.YtlohnhjfdmldnaaRecFixed
import Derived.Test.YtlohnhjfdmldnaaRecJoin
namespace Go.Proofs.Ytlohnhjfdmldnaa.PRecJoins
open Go.RowKit Go.Proofs.YtlohnhjfdmldnaaW.PrintWords Go.Proofs.YtlohnhjfdmldnaaW.PrintLast Go.Proofs.YtlohnhjfdmldnaaW.PrintMore
attribute [local go_sem] max2_int min2_int max_two min_two max_three min_three max_four min_four   -- for this text's walks alone
set_option linter.unusedVariables false
set_option linter.unusedSimpArgs false

/-! ### tattlerlaw06_fixed: function 11 -/
-- NEEDS YtlohnhjfdmldnaaRecFixed
def tattlerlaw06_fixed.f : Option Bool := some true
theorem tattlerlaw06_fixed.calls (r : Bool) (w : World) (h : tattlerlaw06_fixed.f = some r) :
    Calls Try.prog 11 #[] w fun e w' => e = .returned (.bool r) ∧ Below w.heap.size w w' := by
  cases h
  exact Rec.fixed_any w

/-! ### rec_Join: function 15 -/
-- NEEDS YtlohnhjfdmldnaaRecJoin
def rec_Join.f (a0_0 : ByteArray) (a0_1 a0_2 a0_3 a0_4 a0_5 a0_6 : Int) (a0_7 : ByteArray) (a1_0 : ByteArray) (a1_1 a1_2 a1_3 a1_4 a1_5 a1_6 : Int) (a1_7 : ByteArray) : Option (ByteArray × Int × Int × Int × Int × Int × Int × ByteArray) :=
  if a0_7.size ≤ 1000000 ∧ a1_7.size ≤ 1000000 then (if Rec.cmpR a0_1 a0_2 a0_3 a0_4 a0_5 a0_6 a0_7 a1_1 a1_2 a1_3 a1_4 a1_5 a1_6 a1_7 = -1 then some (a1_0, a1_1, a1_2, a1_3, a1_4, a1_5, a1_6, a1_7) else some (a0_0, a0_1, a0_2, a0_3, a0_4, a0_5, a0_6, a0_7)) else none
theorem rec_Join.calls (a0_0 : ByteArray) (a0_1 a0_2 a0_3 a0_4 a0_5 a0_6 : Int) (a0_7 : ByteArray) (a1_0 : ByteArray) (a1_1 a1_2 a1_3 a1_4 a1_5 a1_6 : Int) (a1_7 : ByteArray) (r1 : ByteArray) (r2 r3 r4 r5 r6 r7 : Int) (r8 : ByteArray) (w : World) (h : rec_Join.f a0_0 a0_1 a0_2 a0_3 a0_4 a0_5 a0_6 a0_7 a1_0 a1_1 a1_2 a1_3 a1_4 a1_5 a1_6 a1_7 = some (r1, r2, r3, r4, r5, r6, r7, r8)) :
    Calls Try.prog 15 #[.agg #[.string a0_0, .int .u64 a0_1, .int .u32 a0_2, .int .u8 a0_3, .int .u8 a0_4, .int .u32 a0_5, .int .u64 a0_6, .string a0_7], .agg #[.string a1_0, .int .u64 a1_1, .int .u32 a1_2, .int .u8 a1_3, .int .u8 a1_4, .int .u32 a1_5, .int .u64 a1_6, .string a1_7]] w fun e w' => e = .returned (.agg #[.string r1, .int .u64 r2, .int .u32 r3, .int .u8 r4, .int .u8 r5, .int .u32 r6, .int .u64 r7, .string r8]) ∧ Below w.heap.size w w' := by
  unfold rec_Join.f at h
  split at h
  · rename_i hs
    have hj := Rec.join_any a0_0 a0_1 a0_2 a0_3 a0_4 a0_5 a0_6 a0_7 a1_0 a1_1 a1_2 a1_3 a1_4 a1_5 a1_6 a1_7 w hs.1 hs.2
    split at h
    · rename_i hc
      rw [if_pos hc] at hj
      simp only [Option.some.injEq, Prod.mk.injEq] at h
      obtain ⟨rfl, rfl, rfl, rfl, rfl, rfl, rfl, rfl⟩ := h
      exact hj
    · rename_i hc
      rw [if_neg hc] at hj
      simp only [Option.some.injEq, Prod.mk.injEq] at h
      obtain ⟨rfl, rfl, rfl, rfl, rfl, rfl, rfl, rfl⟩ := h
      exact hj
  · cases h

end Go.Proofs.Ytlohnhjfdmldnaa.PRecJoins

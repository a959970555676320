/- Which records may be, which are live, and the reference's order: the walks (own text; printed by wip/tools/gen_recref.py, a program of this session). -/
import Derived.Test.YtlohnhjfdmldnaaRecPlain
namespace Go.Proofs.Ytlohnhjfdmldnaa.Rec
open Go.RowKit Go.Proofs.Ytlohnhjfdmldnaa.Mem Go.Proofs.Ytlohnhjfdmldnaa.Hlc Go.Proofs.Ytlohnhjfdmldnaa
set_option linter.unusedVariables false
set_option linter.unusedSimpArgs false
/-- Which records are live. -/
def liveR (rd rx t : Int) : Bool := if rd = 3 then (if rx = 0 then true else
  decide (t < rx)) else
  false
theorem live_any_0 (rk : ByteArray) (rp rl rn rd rf rx : Int) (rb : ByteArray) (t : Int) (w : World) (h0 : rd = 3) (h1 : rx = 0) :
    Calls Try.prog 13 #[.agg #[.string rk, .int .u64 rp, .int .u32 rl, .int .u8 rn, .int .u8 rd, .int .u32 rf, .int .u64 rx, .string rb], .int .u64 t] w fun e w' => e = .returned (.bool (true)) ∧ Below w.heap.size w w' := by
  have c0 : (rd == 3) = true := beq_iff_eq.2 h0
  have c1 : (rx == 0) = true := beq_iff_eq.2 h1
  clear h0 h1
  go_enter Try.func13, Try.ntmps13
  go_wp2_with (fail)
  go_ret
  exact ⟨rfl, below_al (Below.refl _ _)⟩
theorem live_any_1 (rk : ByteArray) (rp rl rn rd rf rx : Int) (rb : ByteArray) (t : Int) (w : World) (h0 : rd = 3) (h1 : ¬ (rx = 0)) :
    Calls Try.prog 13 #[.agg #[.string rk, .int .u64 rp, .int .u32 rl, .int .u8 rn, .int .u8 rd, .int .u32 rf, .int .u64 rx, .string rb], .int .u64 t] w fun e w' => e = .returned (.bool (decide (t < rx))) ∧ Below w.heap.size w w' := by
  have c0 : (rd == 3) = true := beq_iff_eq.2 h0
  have c1 : (rx == 0) = false := beq_eq_false_iff_ne.2 h1
  clear h0 h1
  go_enter Try.func13, Try.ntmps13
  go_wp2_with (fail)
  go_ret
  exact ⟨rfl, below_al (Below.refl _ _)⟩
theorem live_any_2 (rk : ByteArray) (rp rl rn rd rf rx : Int) (rb : ByteArray) (t : Int) (w : World) (h0 : ¬ (rd = 3)) :
    Calls Try.prog 13 #[.agg #[.string rk, .int .u64 rp, .int .u32 rl, .int .u8 rn, .int .u8 rd, .int .u32 rf, .int .u64 rx, .string rb], .int .u64 t] w fun e w' => e = .returned (.bool (false)) ∧ Below w.heap.size w w' := by
  have c0 : (rd == 3) = false := beq_eq_false_iff_ne.2 h0
  clear h0
  go_enter Try.func13, Try.ntmps13
  go_wp2_with (fail)
  go_ret
  exact ⟨rfl, below_al (Below.refl _ _)⟩
theorem live_any (rk : ByteArray) (rp rl rn rd rf rx : Int) (rb : ByteArray) (t : Int) (w : World) :
    Calls Try.prog 13 #[.agg #[.string rk, .int .u64 rp, .int .u32 rl, .int .u8 rn, .int .u8 rd, .int .u32 rf, .int .u64 rx, .string rb], .int .u64 t] w fun e w' => e = .returned (.bool (liveR rd rx t)) ∧ Below w.heap.size w w' := by
  unfold liveR
  by_cases h0 : rd = 3
  · by_cases h1 : rx = 0
    · rw [if_pos h0, if_pos h1]
      exact live_any_0 rk rp rl rn rd rf rx rb t w h0 h1
    · rw [if_pos h0, if_neg h1]
      exact live_any_1 rk rp rl rn rd rf rx rb t w h0 h1
  · rw [if_neg h0]
    exact live_any_2 rk rp rl rn rd rf rx rb t w h0
theorem refLive_any_0 (rk : ByteArray) (rp rl rn rd rf rx : Int) (rb : ByteArray) (t : Int) (w : World) (h0 : rd = 3) (h1 : rx = 0) :
    Calls Try.prog 21 #[.agg #[.string rk, .int .u64 rp, .int .u32 rl, .int .u8 rn, .int .u8 rd, .int .u32 rf, .int .u64 rx, .string rb], .int .u64 t] w fun e w' => e = .returned (.bool (true)) ∧ Below w.heap.size w w' := by
  have c0 : (rd == 3) = true := beq_iff_eq.2 h0
  have c1 : (rx == 0) = true := beq_iff_eq.2 h1
  clear h0 h1
  go_enter Try.func21, Try.ntmps21
  go_wp2_with (fail)
  go_ret
  exact ⟨rfl, below_al (Below.refl _ _)⟩
theorem refLive_any_1 (rk : ByteArray) (rp rl rn rd rf rx : Int) (rb : ByteArray) (t : Int) (w : World) (h0 : rd = 3) (h1 : ¬ (rx = 0)) :
    Calls Try.prog 21 #[.agg #[.string rk, .int .u64 rp, .int .u32 rl, .int .u8 rn, .int .u8 rd, .int .u32 rf, .int .u64 rx, .string rb], .int .u64 t] w fun e w' => e = .returned (.bool (decide (t < rx))) ∧ Below w.heap.size w w' := by
  have c0 : (rd == 3) = true := beq_iff_eq.2 h0
  have c1 : (rx == 0) = false := beq_eq_false_iff_ne.2 h1
  clear h0 h1
  go_enter Try.func21, Try.ntmps21
  go_wp2_with (fail)
  go_ret
  exact ⟨rfl, below_al (Below.refl _ _)⟩
theorem refLive_any_2 (rk : ByteArray) (rp rl rn rd rf rx : Int) (rb : ByteArray) (t : Int) (w : World) (h0 : ¬ (rd = 3)) :
    Calls Try.prog 21 #[.agg #[.string rk, .int .u64 rp, .int .u32 rl, .int .u8 rn, .int .u8 rd, .int .u32 rf, .int .u64 rx, .string rb], .int .u64 t] w fun e w' => e = .returned (.bool (false)) ∧ Below w.heap.size w w' := by
  have c0 : (rd == 3) = false := beq_eq_false_iff_ne.2 h0
  clear h0
  go_enter Try.func21, Try.ntmps21
  go_wp2_with (fail)
  go_ret
  exact ⟨rfl, below_al (Below.refl _ _)⟩
theorem refLive_any (rk : ByteArray) (rp rl rn rd rf rx : Int) (rb : ByteArray) (t : Int) (w : World) :
    Calls Try.prog 21 #[.agg #[.string rk, .int .u64 rp, .int .u32 rl, .int .u8 rn, .int .u8 rd, .int .u32 rf, .int .u64 rx, .string rb], .int .u64 t] w fun e w' => e = .returned (.bool (liveR rd rx t)) ∧ Below w.heap.size w w' := by
  unfold liveR
  by_cases h0 : rd = 3
  · by_cases h1 : rx = 0
    · rw [if_pos h0, if_pos h1]
      exact refLive_any_0 rk rp rl rn rd rf rx rb t w h0 h1
    · rw [if_pos h0, if_neg h1]
      exact refLive_any_1 rk rp rl rn rd rf rx rb t w h0 h1
  · rw [if_neg h0]
    exact refLive_any_2 rk rp rl rn rd rf rx rb t w h0
end Go.Proofs.Ytlohnhjfdmldnaa.Rec

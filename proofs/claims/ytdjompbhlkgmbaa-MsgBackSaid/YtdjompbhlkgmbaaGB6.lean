/- What the row needs, laid together out of RecMayA, RecMayB, RecPut (own texts and texts printed for this seat; wip/tools/group.py). -/
import Derived.Test.YtdjompbhlkgmbaaGB3
import Derived.Deep.Cut
import Derived.Deep.AppendSrc
section
/- Which records may be, which are live, and the reference's order: the walks (own text; printed by wip/tools/gen_recref.py, a program of this session). -/
namespace Go.Proofs.Ytdjompbhlkgmbaa.Rec
open Go.RowKit Go.Proofs.Ytdjompbhlkgmbaa.Mem Go.Proofs.Ytdjompbhlkgmbaa.Hlc Go.Proofs.Ytdjompbhlkgmbaa
set_option linter.unusedVariables false
set_option linter.unusedSimpArgs false
theorem may_any_0 (rk : ByteArray) (rp rl rn rd rf rx : Int) (rb : ByteArray) (w : World) (hz : rk.size ≤ 1000000) (h0 : keyMay rk = false) :
    Calls Try.prog 59 #[.agg #[.string rk, .int .u64 rp, .int .u32 rl, .int .u8 rn, .int .u8 rd, .int .u32 rf, .int .u64 rx, .string rb]] w fun e w' => e = .returned (.bool (false)) ∧ Below w.heap.size w w' := by
  have c0 : keyMay rk = false := h0
  clear h0
  have HK := Lib.hid (fun w => key_any rk w hz)
  rw [c0] at HK
  go_enter Try.func59, Try.ntmps59
  go_wp2_with (fail)
  refine (HK.out _).mono ?_
  rintro e w1 ⟨rfl, b1⟩
  obtain ⟨x0, x1, x2, x3, x4, x5, x6, x7, -⟩ := at8 (at_below (at_new w #[.string rk, .int .u64 rp, .int .u32 rl, .int .u8 rn, .int .u8 rd, .int .u32 rf, .int .u64 rx, .string rb] 54) b1)
  go_wp2_with (fail)
  go_ret
  exact ⟨rfl, below_on (below_al (Below.refl _ _)) b1⟩
theorem may_any_1 (rk : ByteArray) (rp rl rn rd rf rx : Int) (rb : ByteArray) (w : World) (hz : rk.size ≤ 1000000) (h0 : ¬ (keyMay rk = false)) (h1 : 281474976710655 < rp) :
    Calls Try.prog 59 #[.agg #[.string rk, .int .u64 rp, .int .u32 rl, .int .u8 rn, .int .u8 rd, .int .u32 rf, .int .u64 rx, .string rb]] w fun e w' => e = .returned (.bool (false)) ∧ Below w.heap.size w w' := by
  have c0 : keyMay rk = true := by simpa using h0
  have c1 : decide (281474976710655 < rp) = true := decide_eq_true (by omega)
  clear h0 h1
  have HK := Lib.hid (fun w => key_any rk w hz)
  rw [c0] at HK
  go_enter Try.func59, Try.ntmps59
  go_wp2_with (fail)
  refine (HK.out _).mono ?_
  rintro e w1 ⟨rfl, b1⟩
  obtain ⟨x0, x1, x2, x3, x4, x5, x6, x7, -⟩ := at8 (at_below (at_new w #[.string rk, .int .u64 rp, .int .u32 rl, .int .u8 rn, .int .u8 rd, .int .u32 rf, .int .u64 rx, .string rb] 54) b1)
  go_wp2_with (fail)
  go_ret
  exact ⟨rfl, below_on (below_al (Below.refl _ _)) b1⟩
theorem may_any_2 (rk : ByteArray) (rp rl rn rd rf rx : Int) (rb : ByteArray) (w : World) (hz : rk.size ≤ 1000000) (h0 : ¬ (keyMay rk = false)) (h1 : ¬ (281474976710655 < rp)) (h2 : 63 < rn) :
    Calls Try.prog 59 #[.agg #[.string rk, .int .u64 rp, .int .u32 rl, .int .u8 rn, .int .u8 rd, .int .u32 rf, .int .u64 rx, .string rb]] w fun e w' => e = .returned (.bool (false)) ∧ Below w.heap.size w w' := by
  have c0 : keyMay rk = true := by simpa using h0
  have c1 : decide (281474976710655 < rp) = false := decide_eq_false (by omega)
  have c2 : decide (63 < rn) = true := decide_eq_true (by omega)
  have c3 : decide (64 ≤ rn) = true := decide_eq_true (by omega)
  clear h0 h1 h2
  have HK := Lib.hid (fun w => key_any rk w hz)
  rw [c0] at HK
  go_enter Try.func59, Try.ntmps59
  go_wp2_with (fail)
  refine (HK.out _).mono ?_
  rintro e w1 ⟨rfl, b1⟩
  obtain ⟨x0, x1, x2, x3, x4, x5, x6, x7, -⟩ := at8 (at_below (at_new w #[.string rk, .int .u64 rp, .int .u32 rl, .int .u8 rn, .int .u8 rd, .int .u32 rf, .int .u64 rx, .string rb] 54) b1)
  go_wp2_with (fail)
  go_ret
  exact ⟨rfl, below_on (below_al (Below.refl _ _)) b1⟩
theorem may_any_3 (rk : ByteArray) (rp rl rn rd rf rx : Int) (rb : ByteArray) (w : World) (hz : rk.size ≤ 1000000) (h0 : ¬ (keyMay rk = false)) (h1 : ¬ (281474976710655 < rp)) (h2 : ¬ (63 < rn)) (h3 : 281474976710655 < rx) :
    Calls Try.prog 59 #[.agg #[.string rk, .int .u64 rp, .int .u32 rl, .int .u8 rn, .int .u8 rd, .int .u32 rf, .int .u64 rx, .string rb]] w fun e w' => e = .returned (.bool (false)) ∧ Below w.heap.size w w' := by
  have c0 : keyMay rk = true := by simpa using h0
  have c1 : decide (281474976710655 < rp) = false := decide_eq_false (by omega)
  have c2 : decide (63 < rn) = false := decide_eq_false (by omega)
  have c3 : decide (64 ≤ rn) = false := decide_eq_false (by omega)
  have c4 : decide (281474976710655 < rx) = true := decide_eq_true (by omega)
  clear h0 h1 h2 h3
  have HK := Lib.hid (fun w => key_any rk w hz)
  rw [c0] at HK
  go_enter Try.func59, Try.ntmps59
  go_wp2_with (fail)
  refine (HK.out _).mono ?_
  rintro e w1 ⟨rfl, b1⟩
  obtain ⟨x0, x1, x2, x3, x4, x5, x6, x7, -⟩ := at8 (at_below (at_new w #[.string rk, .int .u64 rp, .int .u32 rl, .int .u8 rn, .int .u8 rd, .int .u32 rf, .int .u64 rx, .string rb] 54) b1)
  go_wp2_with (fail)
  go_ret
  exact ⟨rfl, below_on (below_al (Below.refl _ _)) b1⟩
theorem may_any_4 (rk : ByteArray) (rp rl rn rd rf rx : Int) (rb : ByteArray) (w : World) (hz : rk.size ≤ 1000000) (h0 : ¬ (keyMay rk = false)) (h1 : ¬ (281474976710655 < rp)) (h2 : ¬ (63 < rn)) (h3 : ¬ (281474976710655 < rx)) (h4 : 1024 < rb.size) :
    Calls Try.prog 59 #[.agg #[.string rk, .int .u64 rp, .int .u32 rl, .int .u8 rn, .int .u8 rd, .int .u32 rf, .int .u64 rx, .string rb]] w fun e w' => e = .returned (.bool (false)) ∧ Below w.heap.size w w' := by
  have c0 : keyMay rk = true := by simpa using h0
  have c1 : decide (281474976710655 < rp) = false := decide_eq_false (by omega)
  have c2 : decide (63 < rn) = false := decide_eq_false (by omega)
  have c3 : decide (64 ≤ rn) = false := decide_eq_false (by omega)
  have c4 : decide (281474976710655 < rx) = false := decide_eq_false (by omega)
  have c5 : decide (1024 < (rb.size : Int)) = true := decide_eq_true (by omega)
  clear h0 h1 h2 h3 h4
  have HK := Lib.hid (fun w => key_any rk w hz)
  rw [c0] at HK
  go_enter Try.func59, Try.ntmps59
  go_wp2_with (fail)
  refine (HK.out _).mono ?_
  rintro e w1 ⟨rfl, b1⟩
  obtain ⟨x0, x1, x2, x3, x4, x5, x6, x7, -⟩ := at8 (at_below (at_new w #[.string rk, .int .u64 rp, .int .u32 rl, .int .u8 rn, .int .u8 rd, .int .u32 rf, .int .u64 rx, .string rb] 54) b1)
  go_wp2_with (fail)
  go_ret
  exact ⟨rfl, below_on (below_al (Below.refl _ _)) b1⟩
theorem may_any_5 (rk : ByteArray) (rp rl rn rd rf rx : Int) (rb : ByteArray) (w : World) (hz : rk.size ≤ 1000000) (h0 : ¬ (keyMay rk = false)) (h1 : ¬ (281474976710655 < rp)) (h2 : ¬ (63 < rn)) (h3 : ¬ (281474976710655 < rx)) (h4 : ¬ (1024 < rb.size)) (h5 : rd = 3) :
    Calls Try.prog 59 #[.agg #[.string rk, .int .u64 rp, .int .u32 rl, .int .u8 rn, .int .u8 rd, .int .u32 rf, .int .u64 rx, .string rb]] w fun e w' => e = .returned (.bool (true)) ∧ Below w.heap.size w w' := by
  have c0 : keyMay rk = true := by simpa using h0
  have c1 : decide (281474976710655 < rp) = false := decide_eq_false (by omega)
  have c2 : decide (63 < rn) = false := decide_eq_false (by omega)
  have c3 : decide (64 ≤ rn) = false := decide_eq_false (by omega)
  have c4 : decide (281474976710655 < rx) = false := decide_eq_false (by omega)
  have c5 : decide (1024 < (rb.size : Int)) = false := decide_eq_false (by omega)
  have c6 : (rd == 3) = true := beq_iff_eq.2 h5
  clear h0 h1 h2 h3 h4 h5
  have HK := Lib.hid (fun w => key_any rk w hz)
  rw [c0] at HK
  go_enter Try.func59, Try.ntmps59
  go_wp2_with (fail)
  refine (HK.out _).mono ?_
  rintro e w1 ⟨rfl, b1⟩
  obtain ⟨x0, x1, x2, x3, x4, x5, x6, x7, -⟩ := at8 (at_below (at_new w #[.string rk, .int .u64 rp, .int .u32 rl, .int .u8 rn, .int .u8 rd, .int .u32 rf, .int .u64 rx, .string rb] 54) b1)
  go_wp2_with (fail)
  go_ret
  exact ⟨rfl, below_on (below_al (Below.refl _ _)) b1⟩
theorem may_any_6 (rk : ByteArray) (rp rl rn rd rf rx : Int) (rb : ByteArray) (w : World) (hz : rk.size ≤ 1000000) (h0 : ¬ (keyMay rk = false)) (h1 : ¬ (281474976710655 < rp)) (h2 : ¬ (63 < rn)) (h3 : ¬ (281474976710655 < rx)) (h4 : ¬ (1024 < rb.size)) (h5 : ¬ (rd = 3)) (h6 : rd = 1) (h7 : rf = 0) (h8 : rx = 0) (h9 : rb.size = 0) :
    Calls Try.prog 59 #[.agg #[.string rk, .int .u64 rp, .int .u32 rl, .int .u8 rn, .int .u8 rd, .int .u32 rf, .int .u64 rx, .string rb]] w fun e w' => e = .returned (.bool (true)) ∧ Below w.heap.size w w' := by
  have c0 : keyMay rk = true := by simpa using h0
  have c1 : decide (281474976710655 < rp) = false := decide_eq_false (by omega)
  have c2 : decide (63 < rn) = false := decide_eq_false (by omega)
  have c3 : decide (64 ≤ rn) = false := decide_eq_false (by omega)
  have c4 : decide (281474976710655 < rx) = false := decide_eq_false (by omega)
  have c5 : decide (1024 < (rb.size : Int)) = false := decide_eq_false (by omega)
  have c6 : (rd == 3) = false := beq_eq_false_iff_ne.2 h5
  have c7 : (rd == 1) = true := beq_iff_eq.2 h6
  have c8 : (rf == 0) = true := beq_iff_eq.2 h7
  have c9 : (rx == 0) = true := beq_iff_eq.2 h8
  have c10 : rb.toList.isEmpty = true := empty_of h9
  clear h0 h1 h2 h3 h4 h5 h6 h7 h8 h9
  have HK := Lib.hid (fun w => key_any rk w hz)
  rw [c0] at HK
  go_enter Try.func59, Try.ntmps59
  go_wp2_with (fail)
  refine (HK.out _).mono ?_
  rintro e w1 ⟨rfl, b1⟩
  obtain ⟨x0, x1, x2, x3, x4, x5, x6, x7, -⟩ := at8 (at_below (at_new w #[.string rk, .int .u64 rp, .int .u32 rl, .int .u8 rn, .int .u8 rd, .int .u32 rf, .int .u64 rx, .string rb] 54) b1)
  go_wp2_with (fail)
  go_ret
  exact ⟨rfl, below_on (below_al (Below.refl _ _)) b1⟩
theorem may_any_7 (rk : ByteArray) (rp rl rn rd rf rx : Int) (rb : ByteArray) (w : World) (hz : rk.size ≤ 1000000) (h0 : ¬ (keyMay rk = false)) (h1 : ¬ (281474976710655 < rp)) (h2 : ¬ (63 < rn)) (h3 : ¬ (281474976710655 < rx)) (h4 : ¬ (1024 < rb.size)) (h5 : ¬ (rd = 3)) (h6 : rd = 1) (h7 : rf = 0) (h8 : rx = 0) (h9 : ¬ (rb.size = 0)) :
    Calls Try.prog 59 #[.agg #[.string rk, .int .u64 rp, .int .u32 rl, .int .u8 rn, .int .u8 rd, .int .u32 rf, .int .u64 rx, .string rb]] w fun e w' => e = .returned (.bool (false)) ∧ Below w.heap.size w w' := by
  have c0 : keyMay rk = true := by simpa using h0
  have c1 : decide (281474976710655 < rp) = false := decide_eq_false (by omega)
  have c2 : decide (63 < rn) = false := decide_eq_false (by omega)
  have c3 : decide (64 ≤ rn) = false := decide_eq_false (by omega)
  have c4 : decide (281474976710655 < rx) = false := decide_eq_false (by omega)
  have c5 : decide (1024 < (rb.size : Int)) = false := decide_eq_false (by omega)
  have c6 : (rd == 3) = false := beq_eq_false_iff_ne.2 h5
  have c7 : (rd == 1) = true := beq_iff_eq.2 h6
  have c8 : (rf == 0) = true := beq_iff_eq.2 h7
  have c9 : (rx == 0) = true := beq_iff_eq.2 h8
  have c10 : rb.toList.isEmpty = false := full_of h9
  clear h0 h1 h2 h3 h4 h5 h6 h7 h8 h9
  have HK := Lib.hid (fun w => key_any rk w hz)
  rw [c0] at HK
  go_enter Try.func59, Try.ntmps59
  go_wp2_with (fail)
  refine (HK.out _).mono ?_
  rintro e w1 ⟨rfl, b1⟩
  obtain ⟨x0, x1, x2, x3, x4, x5, x6, x7, -⟩ := at8 (at_below (at_new w #[.string rk, .int .u64 rp, .int .u32 rl, .int .u8 rn, .int .u8 rd, .int .u32 rf, .int .u64 rx, .string rb] 54) b1)
  go_wp2_with (fail)
  go_ret
  exact ⟨rfl, below_on (below_al (Below.refl _ _)) b1⟩
theorem may_any_8 (rk : ByteArray) (rp rl rn rd rf rx : Int) (rb : ByteArray) (w : World) (hz : rk.size ≤ 1000000) (h0 : ¬ (keyMay rk = false)) (h1 : ¬ (281474976710655 < rp)) (h2 : ¬ (63 < rn)) (h3 : ¬ (281474976710655 < rx)) (h4 : ¬ (1024 < rb.size)) (h5 : ¬ (rd = 3)) (h6 : rd = 1) (h7 : rf = 0) (h8 : ¬ (rx = 0)) :
    Calls Try.prog 59 #[.agg #[.string rk, .int .u64 rp, .int .u32 rl, .int .u8 rn, .int .u8 rd, .int .u32 rf, .int .u64 rx, .string rb]] w fun e w' => e = .returned (.bool (false)) ∧ Below w.heap.size w w' := by
  have c0 : keyMay rk = true := by simpa using h0
  have c1 : decide (281474976710655 < rp) = false := decide_eq_false (by omega)
  have c2 : decide (63 < rn) = false := decide_eq_false (by omega)
  have c3 : decide (64 ≤ rn) = false := decide_eq_false (by omega)
  have c4 : decide (281474976710655 < rx) = false := decide_eq_false (by omega)
  have c5 : decide (1024 < (rb.size : Int)) = false := decide_eq_false (by omega)
  have c6 : (rd == 3) = false := beq_eq_false_iff_ne.2 h5
  have c7 : (rd == 1) = true := beq_iff_eq.2 h6
  have c8 : (rf == 0) = true := beq_iff_eq.2 h7
  have c9 : (rx == 0) = false := beq_eq_false_iff_ne.2 h8
  clear h0 h1 h2 h3 h4 h5 h6 h7 h8
  have HK := Lib.hid (fun w => key_any rk w hz)
  rw [c0] at HK
  go_enter Try.func59, Try.ntmps59
  go_wp2_with (fail)
  refine (HK.out _).mono ?_
  rintro e w1 ⟨rfl, b1⟩
  obtain ⟨x0, x1, x2, x3, x4, x5, x6, x7, -⟩ := at8 (at_below (at_new w #[.string rk, .int .u64 rp, .int .u32 rl, .int .u8 rn, .int .u8 rd, .int .u32 rf, .int .u64 rx, .string rb] 54) b1)
  go_wp2_with (fail)
  go_ret
  exact ⟨rfl, below_on (below_al (Below.refl _ _)) b1⟩
theorem may_any_9 (rk : ByteArray) (rp rl rn rd rf rx : Int) (rb : ByteArray) (w : World) (hz : rk.size ≤ 1000000) (h0 : ¬ (keyMay rk = false)) (h1 : ¬ (281474976710655 < rp)) (h2 : ¬ (63 < rn)) (h3 : ¬ (281474976710655 < rx)) (h4 : ¬ (1024 < rb.size)) (h5 : ¬ (rd = 3)) (h6 : rd = 1) (h7 : ¬ (rf = 0)) :
    Calls Try.prog 59 #[.agg #[.string rk, .int .u64 rp, .int .u32 rl, .int .u8 rn, .int .u8 rd, .int .u32 rf, .int .u64 rx, .string rb]] w fun e w' => e = .returned (.bool (false)) ∧ Below w.heap.size w w' := by
  have c0 : keyMay rk = true := by simpa using h0
  have c1 : decide (281474976710655 < rp) = false := decide_eq_false (by omega)
  have c2 : decide (63 < rn) = false := decide_eq_false (by omega)
  have c3 : decide (64 ≤ rn) = false := decide_eq_false (by omega)
  have c4 : decide (281474976710655 < rx) = false := decide_eq_false (by omega)
  have c5 : decide (1024 < (rb.size : Int)) = false := decide_eq_false (by omega)
  have c6 : (rd == 3) = false := beq_eq_false_iff_ne.2 h5
  have c7 : (rd == 1) = true := beq_iff_eq.2 h6
  have c8 : (rf == 0) = false := beq_eq_false_iff_ne.2 h7
  clear h0 h1 h2 h3 h4 h5 h6 h7
  have HK := Lib.hid (fun w => key_any rk w hz)
  rw [c0] at HK
  go_enter Try.func59, Try.ntmps59
  go_wp2_with (fail)
  refine (HK.out _).mono ?_
  rintro e w1 ⟨rfl, b1⟩
  obtain ⟨x0, x1, x2, x3, x4, x5, x6, x7, -⟩ := at8 (at_below (at_new w #[.string rk, .int .u64 rp, .int .u32 rl, .int .u8 rn, .int .u8 rd, .int .u32 rf, .int .u64 rx, .string rb] 54) b1)
  go_wp2_with (fail)
  go_ret
  exact ⟨rfl, below_on (below_al (Below.refl _ _)) b1⟩
theorem may_any_10 (rk : ByteArray) (rp rl rn rd rf rx : Int) (rb : ByteArray) (w : World) (hz : rk.size ≤ 1000000) (h0 : ¬ (keyMay rk = false)) (h1 : ¬ (281474976710655 < rp)) (h2 : ¬ (63 < rn)) (h3 : ¬ (281474976710655 < rx)) (h4 : ¬ (1024 < rb.size)) (h5 : ¬ (rd = 3)) (h6 : ¬ (rd = 1)) (h7 : rd = 2) (h8 : rf = 0) (h9 : rx = 0) (h10 : rb.size = 0) :
    Calls Try.prog 59 #[.agg #[.string rk, .int .u64 rp, .int .u32 rl, .int .u8 rn, .int .u8 rd, .int .u32 rf, .int .u64 rx, .string rb]] w fun e w' => e = .returned (.bool (true)) ∧ Below w.heap.size w w' := by
  have c0 : keyMay rk = true := by simpa using h0
  have c1 : decide (281474976710655 < rp) = false := decide_eq_false (by omega)
  have c2 : decide (63 < rn) = false := decide_eq_false (by omega)
  have c3 : decide (64 ≤ rn) = false := decide_eq_false (by omega)
  have c4 : decide (281474976710655 < rx) = false := decide_eq_false (by omega)
  have c5 : decide (1024 < (rb.size : Int)) = false := decide_eq_false (by omega)
  have c6 : (rd == 3) = false := beq_eq_false_iff_ne.2 h5
  have c7 : (rd == 1) = false := beq_eq_false_iff_ne.2 h6
  have c8 : (rd == 2) = true := beq_iff_eq.2 h7
  have c9 : (rf == 0) = true := beq_iff_eq.2 h8
  have c10 : (rx == 0) = true := beq_iff_eq.2 h9
  have c11 : rb.toList.isEmpty = true := empty_of h10
  clear h0 h1 h2 h3 h4 h5 h6 h7 h8 h9 h10
  have HK := Lib.hid (fun w => key_any rk w hz)
  rw [c0] at HK
  go_enter Try.func59, Try.ntmps59
  go_wp2_with (fail)
  refine (HK.out _).mono ?_
  rintro e w1 ⟨rfl, b1⟩
  obtain ⟨x0, x1, x2, x3, x4, x5, x6, x7, -⟩ := at8 (at_below (at_new w #[.string rk, .int .u64 rp, .int .u32 rl, .int .u8 rn, .int .u8 rd, .int .u32 rf, .int .u64 rx, .string rb] 54) b1)
  go_wp2_with (fail)
  go_ret
  exact ⟨rfl, below_on (below_al (Below.refl _ _)) b1⟩
theorem may_any_11 (rk : ByteArray) (rp rl rn rd rf rx : Int) (rb : ByteArray) (w : World) (hz : rk.size ≤ 1000000) (h0 : ¬ (keyMay rk = false)) (h1 : ¬ (281474976710655 < rp)) (h2 : ¬ (63 < rn)) (h3 : ¬ (281474976710655 < rx)) (h4 : ¬ (1024 < rb.size)) (h5 : ¬ (rd = 3)) (h6 : ¬ (rd = 1)) (h7 : rd = 2) (h8 : rf = 0) (h9 : rx = 0) (h10 : ¬ (rb.size = 0)) :
    Calls Try.prog 59 #[.agg #[.string rk, .int .u64 rp, .int .u32 rl, .int .u8 rn, .int .u8 rd, .int .u32 rf, .int .u64 rx, .string rb]] w fun e w' => e = .returned (.bool (false)) ∧ Below w.heap.size w w' := by
  have c0 : keyMay rk = true := by simpa using h0
  have c1 : decide (281474976710655 < rp) = false := decide_eq_false (by omega)
  have c2 : decide (63 < rn) = false := decide_eq_false (by omega)
  have c3 : decide (64 ≤ rn) = false := decide_eq_false (by omega)
  have c4 : decide (281474976710655 < rx) = false := decide_eq_false (by omega)
  have c5 : decide (1024 < (rb.size : Int)) = false := decide_eq_false (by omega)
  have c6 : (rd == 3) = false := beq_eq_false_iff_ne.2 h5
  have c7 : (rd == 1) = false := beq_eq_false_iff_ne.2 h6
  have c8 : (rd == 2) = true := beq_iff_eq.2 h7
  have c9 : (rf == 0) = true := beq_iff_eq.2 h8
  have c10 : (rx == 0) = true := beq_iff_eq.2 h9
  have c11 : rb.toList.isEmpty = false := full_of h10
  clear h0 h1 h2 h3 h4 h5 h6 h7 h8 h9 h10
  have HK := Lib.hid (fun w => key_any rk w hz)
  rw [c0] at HK
  go_enter Try.func59, Try.ntmps59
  go_wp2_with (fail)
  refine (HK.out _).mono ?_
  rintro e w1 ⟨rfl, b1⟩
  obtain ⟨x0, x1, x2, x3, x4, x5, x6, x7, -⟩ := at8 (at_below (at_new w #[.string rk, .int .u64 rp, .int .u32 rl, .int .u8 rn, .int .u8 rd, .int .u32 rf, .int .u64 rx, .string rb] 54) b1)
  go_wp2_with (fail)
  go_ret
  exact ⟨rfl, below_on (below_al (Below.refl _ _)) b1⟩
theorem may_any_12 (rk : ByteArray) (rp rl rn rd rf rx : Int) (rb : ByteArray) (w : World) (hz : rk.size ≤ 1000000) (h0 : ¬ (keyMay rk = false)) (h1 : ¬ (281474976710655 < rp)) (h2 : ¬ (63 < rn)) (h3 : ¬ (281474976710655 < rx)) (h4 : ¬ (1024 < rb.size)) (h5 : ¬ (rd = 3)) (h6 : ¬ (rd = 1)) (h7 : rd = 2) (h8 : rf = 0) (h9 : ¬ (rx = 0)) :
    Calls Try.prog 59 #[.agg #[.string rk, .int .u64 rp, .int .u32 rl, .int .u8 rn, .int .u8 rd, .int .u32 rf, .int .u64 rx, .string rb]] w fun e w' => e = .returned (.bool (false)) ∧ Below w.heap.size w w' := by
  have c0 : keyMay rk = true := by simpa using h0
  have c1 : decide (281474976710655 < rp) = false := decide_eq_false (by omega)
  have c2 : decide (63 < rn) = false := decide_eq_false (by omega)
  have c3 : decide (64 ≤ rn) = false := decide_eq_false (by omega)
  have c4 : decide (281474976710655 < rx) = false := decide_eq_false (by omega)
  have c5 : decide (1024 < (rb.size : Int)) = false := decide_eq_false (by omega)
  have c6 : (rd == 3) = false := beq_eq_false_iff_ne.2 h5
  have c7 : (rd == 1) = false := beq_eq_false_iff_ne.2 h6
  have c8 : (rd == 2) = true := beq_iff_eq.2 h7
  have c9 : (rf == 0) = true := beq_iff_eq.2 h8
  have c10 : (rx == 0) = false := beq_eq_false_iff_ne.2 h9
  clear h0 h1 h2 h3 h4 h5 h6 h7 h8 h9
  have HK := Lib.hid (fun w => key_any rk w hz)
  rw [c0] at HK
  go_enter Try.func59, Try.ntmps59
  go_wp2_with (fail)
  refine (HK.out _).mono ?_
  rintro e w1 ⟨rfl, b1⟩
  obtain ⟨x0, x1, x2, x3, x4, x5, x6, x7, -⟩ := at8 (at_below (at_new w #[.string rk, .int .u64 rp, .int .u32 rl, .int .u8 rn, .int .u8 rd, .int .u32 rf, .int .u64 rx, .string rb] 54) b1)
  go_wp2_with (fail)
  go_ret
  exact ⟨rfl, below_on (below_al (Below.refl _ _)) b1⟩
theorem may_any_13 (rk : ByteArray) (rp rl rn rd rf rx : Int) (rb : ByteArray) (w : World) (hz : rk.size ≤ 1000000) (h0 : ¬ (keyMay rk = false)) (h1 : ¬ (281474976710655 < rp)) (h2 : ¬ (63 < rn)) (h3 : ¬ (281474976710655 < rx)) (h4 : ¬ (1024 < rb.size)) (h5 : ¬ (rd = 3)) (h6 : ¬ (rd = 1)) (h7 : rd = 2) (h8 : ¬ (rf = 0)) :
    Calls Try.prog 59 #[.agg #[.string rk, .int .u64 rp, .int .u32 rl, .int .u8 rn, .int .u8 rd, .int .u32 rf, .int .u64 rx, .string rb]] w fun e w' => e = .returned (.bool (false)) ∧ Below w.heap.size w w' := by
  have c0 : keyMay rk = true := by simpa using h0
  have c1 : decide (281474976710655 < rp) = false := decide_eq_false (by omega)
  have c2 : decide (63 < rn) = false := decide_eq_false (by omega)
  have c3 : decide (64 ≤ rn) = false := decide_eq_false (by omega)
  have c4 : decide (281474976710655 < rx) = false := decide_eq_false (by omega)
  have c5 : decide (1024 < (rb.size : Int)) = false := decide_eq_false (by omega)
  have c6 : (rd == 3) = false := beq_eq_false_iff_ne.2 h5
  have c7 : (rd == 1) = false := beq_eq_false_iff_ne.2 h6
  have c8 : (rd == 2) = true := beq_iff_eq.2 h7
  have c9 : (rf == 0) = false := beq_eq_false_iff_ne.2 h8
  clear h0 h1 h2 h3 h4 h5 h6 h7 h8
  have HK := Lib.hid (fun w => key_any rk w hz)
  rw [c0] at HK
  go_enter Try.func59, Try.ntmps59
  go_wp2_with (fail)
  refine (HK.out _).mono ?_
  rintro e w1 ⟨rfl, b1⟩
  obtain ⟨x0, x1, x2, x3, x4, x5, x6, x7, -⟩ := at8 (at_below (at_new w #[.string rk, .int .u64 rp, .int .u32 rl, .int .u8 rn, .int .u8 rd, .int .u32 rf, .int .u64 rx, .string rb] 54) b1)
  go_wp2_with (fail)
  go_ret
  exact ⟨rfl, below_on (below_al (Below.refl _ _)) b1⟩
theorem may_any_14 (rk : ByteArray) (rp rl rn rd rf rx : Int) (rb : ByteArray) (w : World) (hz : rk.size ≤ 1000000) (h0 : ¬ (keyMay rk = false)) (h1 : ¬ (281474976710655 < rp)) (h2 : ¬ (63 < rn)) (h3 : ¬ (281474976710655 < rx)) (h4 : ¬ (1024 < rb.size)) (h5 : ¬ (rd = 3)) (h6 : ¬ (rd = 1)) (h7 : ¬ (rd = 2)) :
    Calls Try.prog 59 #[.agg #[.string rk, .int .u64 rp, .int .u32 rl, .int .u8 rn, .int .u8 rd, .int .u32 rf, .int .u64 rx, .string rb]] w fun e w' => e = .returned (.bool (false)) ∧ Below w.heap.size w w' := by
  have c0 : keyMay rk = true := by simpa using h0
  have c1 : decide (281474976710655 < rp) = false := decide_eq_false (by omega)
  have c2 : decide (63 < rn) = false := decide_eq_false (by omega)
  have c3 : decide (64 ≤ rn) = false := decide_eq_false (by omega)
  have c4 : decide (281474976710655 < rx) = false := decide_eq_false (by omega)
  have c5 : decide (1024 < (rb.size : Int)) = false := decide_eq_false (by omega)
  have c6 : (rd == 3) = false := beq_eq_false_iff_ne.2 h5
  have c7 : (rd == 1) = false := beq_eq_false_iff_ne.2 h6
  have c8 : (rd == 2) = false := beq_eq_false_iff_ne.2 h7
  clear h0 h1 h2 h3 h4 h5 h6 h7
  have HK := Lib.hid (fun w => key_any rk w hz)
  rw [c0] at HK
  go_enter Try.func59, Try.ntmps59
  go_wp2_with (fail)
  refine (HK.out _).mono ?_
  rintro e w1 ⟨rfl, b1⟩
  obtain ⟨x0, x1, x2, x3, x4, x5, x6, x7, -⟩ := at8 (at_below (at_new w #[.string rk, .int .u64 rp, .int .u32 rl, .int .u8 rn, .int .u8 rd, .int .u32 rf, .int .u64 rx, .string rb] 54) b1)
  go_wp2_with (fail)
  go_ret
  exact ⟨rfl, below_on (below_al (Below.refl _ _)) b1⟩
theorem may_any (rk : ByteArray) (rp rl rn rd rf rx : Int) (rb : ByteArray) (w : World) (hz : rk.size ≤ 1000000) :
    Calls Try.prog 59 #[.agg #[.string rk, .int .u64 rp, .int .u32 rl, .int .u8 rn, .int .u8 rd, .int .u32 rf, .int .u64 rx, .string rb]] w fun e w' => e = .returned (.bool (mayR rk rp rn rd rf rx rb)) ∧ Below w.heap.size w w' := by
  unfold mayR
  by_cases h0 : keyMay rk = false
  · rw [if_pos h0]
    exact may_any_0 rk rp rl rn rd rf rx rb w hz h0
  · by_cases h1 : 281474976710655 < rp
    · rw [if_neg h0, if_pos h1]
      exact may_any_1 rk rp rl rn rd rf rx rb w hz h0 h1
    · by_cases h2 : 63 < rn
      · rw [if_neg h0, if_neg h1, if_pos h2]
        exact may_any_2 rk rp rl rn rd rf rx rb w hz h0 h1 h2
      · by_cases h3 : 281474976710655 < rx
        · rw [if_neg h0, if_neg h1, if_neg h2, if_pos h3]
          exact may_any_3 rk rp rl rn rd rf rx rb w hz h0 h1 h2 h3
        · by_cases h4 : 1024 < rb.size
          · rw [if_neg h0, if_neg h1, if_neg h2, if_neg h3, if_pos h4]
            exact may_any_4 rk rp rl rn rd rf rx rb w hz h0 h1 h2 h3 h4
          · by_cases h5 : rd = 3
            · rw [if_neg h0, if_neg h1, if_neg h2, if_neg h3, if_neg h4, if_pos h5]
              exact may_any_5 rk rp rl rn rd rf rx rb w hz h0 h1 h2 h3 h4 h5
            · by_cases h6 : rd = 1
              · by_cases h7 : rf = 0
                · by_cases h8 : rx = 0
                  · by_cases h9 : rb.size = 0
                    · rw [if_neg h0, if_neg h1, if_neg h2, if_neg h3, if_neg h4, if_neg h5, if_pos h6, if_pos h7, if_pos h8, if_pos h9]
                      exact may_any_6 rk rp rl rn rd rf rx rb w hz h0 h1 h2 h3 h4 h5 h6 h7 h8 h9
                    · rw [if_neg h0, if_neg h1, if_neg h2, if_neg h3, if_neg h4, if_neg h5, if_pos h6, if_pos h7, if_pos h8, if_neg h9]
                      exact may_any_7 rk rp rl rn rd rf rx rb w hz h0 h1 h2 h3 h4 h5 h6 h7 h8 h9
                  · rw [if_neg h0, if_neg h1, if_neg h2, if_neg h3, if_neg h4, if_neg h5, if_pos h6, if_pos h7, if_neg h8]
                    exact may_any_8 rk rp rl rn rd rf rx rb w hz h0 h1 h2 h3 h4 h5 h6 h7 h8
                · rw [if_neg h0, if_neg h1, if_neg h2, if_neg h3, if_neg h4, if_neg h5, if_pos h6, if_neg h7]
                  exact may_any_9 rk rp rl rn rd rf rx rb w hz h0 h1 h2 h3 h4 h5 h6 h7
              · by_cases h7 : rd = 2
                · by_cases h8 : rf = 0
                  · by_cases h9 : rx = 0
                    · by_cases h10 : rb.size = 0
                      · rw [if_neg h0, if_neg h1, if_neg h2, if_neg h3, if_neg h4, if_neg h5, if_neg h6, if_pos h7, if_pos h8, if_pos h9, if_pos h10]
                        exact may_any_10 rk rp rl rn rd rf rx rb w hz h0 h1 h2 h3 h4 h5 h6 h7 h8 h9 h10
                      · rw [if_neg h0, if_neg h1, if_neg h2, if_neg h3, if_neg h4, if_neg h5, if_neg h6, if_pos h7, if_pos h8, if_pos h9, if_neg h10]
                        exact may_any_11 rk rp rl rn rd rf rx rb w hz h0 h1 h2 h3 h4 h5 h6 h7 h8 h9 h10
                    · rw [if_neg h0, if_neg h1, if_neg h2, if_neg h3, if_neg h4, if_neg h5, if_neg h6, if_pos h7, if_pos h8, if_neg h9]
                      exact may_any_12 rk rp rl rn rd rf rx rb w hz h0 h1 h2 h3 h4 h5 h6 h7 h8 h9
                  · rw [if_neg h0, if_neg h1, if_neg h2, if_neg h3, if_neg h4, if_neg h5, if_neg h6, if_pos h7, if_neg h8]
                    exact may_any_13 rk rp rl rn rd rf rx rb w hz h0 h1 h2 h3 h4 h5 h6 h7 h8
                · rw [if_neg h0, if_neg h1, if_neg h2, if_neg h3, if_neg h4, if_neg h5, if_neg h6, if_neg h7]
                  exact may_any_14 rk rp rl rn rd rf rx rb w hz h0 h1 h2 h3 h4 h5 h6 h7
end Go.Proofs.Ytdjompbhlkgmbaa.Rec
end
section
/- Which records may be, which are live, and the reference's order: the walks (own text; printed by wip/tools/gen_recref.py, a program of this session). -/
namespace Go.Proofs.Ytdjompbhlkgmbaa.Rec
open Go.RowKit Go.Proofs.Ytdjompbhlkgmbaa.Mem Go.Proofs.Ytdjompbhlkgmbaa.Hlc Go.Proofs.Ytdjompbhlkgmbaa
set_option linter.unusedVariables false
set_option linter.unusedSimpArgs false
theorem refMay_any_0 (rk : ByteArray) (rp rl rn rd rf rx : Int) (rb : ByteArray) (w : World) (hz : rk.size ≤ 1000000) (h0 : keyMay rk = false) :
    Calls Try.prog 51 #[.agg #[.string rk, .int .u64 rp, .int .u32 rl, .int .u8 rn, .int .u8 rd, .int .u32 rf, .int .u64 rx, .string rb]] w fun e w' => e = .returned (.bool (false)) ∧ Below w.heap.size w w' := by
  have c0 : keyMay rk = false := h0
  clear h0
  have HK := Lib.hid (fun w => refKey_any rk w hz)
  rw [c0] at HK
  go_enter Try.func51, Try.ntmps51
  go_wp2_with (fail)
  refine (HK.out _).mono ?_
  rintro e w1 ⟨rfl, b1⟩
  obtain ⟨x0, x1, x2, x3, x4, x5, x6, x7, -⟩ := at8 (at_below (at_new w #[.string rk, .int .u64 rp, .int .u32 rl, .int .u8 rn, .int .u8 rd, .int .u32 rf, .int .u64 rx, .string rb] 54) b1)
  go_wp2_with (fail)
  go_ret
  exact ⟨rfl, below_on (below_al (Below.refl _ _)) b1⟩
theorem refMay_any_1 (rk : ByteArray) (rp rl rn rd rf rx : Int) (rb : ByteArray) (w : World) (hz : rk.size ≤ 1000000) (h0 : ¬ (keyMay rk = false)) (h1 : 281474976710655 < rp) :
    Calls Try.prog 51 #[.agg #[.string rk, .int .u64 rp, .int .u32 rl, .int .u8 rn, .int .u8 rd, .int .u32 rf, .int .u64 rx, .string rb]] w fun e w' => e = .returned (.bool (false)) ∧ Below w.heap.size w w' := by
  have c0 : keyMay rk = true := by simpa using h0
  have c1 : decide (281474976710655 < rp) = true := decide_eq_true (by omega)
  clear h0 h1
  have HK := Lib.hid (fun w => refKey_any rk w hz)
  rw [c0] at HK
  go_enter Try.func51, Try.ntmps51
  go_wp2_with (fail)
  refine (HK.out _).mono ?_
  rintro e w1 ⟨rfl, b1⟩
  obtain ⟨x0, x1, x2, x3, x4, x5, x6, x7, -⟩ := at8 (at_below (at_new w #[.string rk, .int .u64 rp, .int .u32 rl, .int .u8 rn, .int .u8 rd, .int .u32 rf, .int .u64 rx, .string rb] 54) b1)
  go_wp2_with (fail)
  go_ret
  exact ⟨rfl, below_on (below_al (Below.refl _ _)) b1⟩
theorem refMay_any_2 (rk : ByteArray) (rp rl rn rd rf rx : Int) (rb : ByteArray) (w : World) (hz : rk.size ≤ 1000000) (h0 : ¬ (keyMay rk = false)) (h1 : ¬ (281474976710655 < rp)) (h2 : 63 < rn) :
    Calls Try.prog 51 #[.agg #[.string rk, .int .u64 rp, .int .u32 rl, .int .u8 rn, .int .u8 rd, .int .u32 rf, .int .u64 rx, .string rb]] w fun e w' => e = .returned (.bool (false)) ∧ Below w.heap.size w w' := by
  have c0 : keyMay rk = true := by simpa using h0
  have c1 : decide (281474976710655 < rp) = false := decide_eq_false (by omega)
  have c2 : decide (63 < rn) = true := decide_eq_true (by omega)
  have c3 : decide (64 ≤ rn) = true := decide_eq_true (by omega)
  clear h0 h1 h2
  have HK := Lib.hid (fun w => refKey_any rk w hz)
  rw [c0] at HK
  go_enter Try.func51, Try.ntmps51
  go_wp2_with (fail)
  refine (HK.out _).mono ?_
  rintro e w1 ⟨rfl, b1⟩
  obtain ⟨x0, x1, x2, x3, x4, x5, x6, x7, -⟩ := at8 (at_below (at_new w #[.string rk, .int .u64 rp, .int .u32 rl, .int .u8 rn, .int .u8 rd, .int .u32 rf, .int .u64 rx, .string rb] 54) b1)
  go_wp2_with (fail)
  go_ret
  exact ⟨rfl, below_on (below_al (Below.refl _ _)) b1⟩
theorem refMay_any_3 (rk : ByteArray) (rp rl rn rd rf rx : Int) (rb : ByteArray) (w : World) (hz : rk.size ≤ 1000000) (h0 : ¬ (keyMay rk = false)) (h1 : ¬ (281474976710655 < rp)) (h2 : ¬ (63 < rn)) (h3 : 281474976710655 < rx) :
    Calls Try.prog 51 #[.agg #[.string rk, .int .u64 rp, .int .u32 rl, .int .u8 rn, .int .u8 rd, .int .u32 rf, .int .u64 rx, .string rb]] w fun e w' => e = .returned (.bool (false)) ∧ Below w.heap.size w w' := by
  have c0 : keyMay rk = true := by simpa using h0
  have c1 : decide (281474976710655 < rp) = false := decide_eq_false (by omega)
  have c2 : decide (63 < rn) = false := decide_eq_false (by omega)
  have c3 : decide (64 ≤ rn) = false := decide_eq_false (by omega)
  have c4 : decide (281474976710655 < rx) = true := decide_eq_true (by omega)
  clear h0 h1 h2 h3
  have HK := Lib.hid (fun w => refKey_any rk w hz)
  rw [c0] at HK
  go_enter Try.func51, Try.ntmps51
  go_wp2_with (fail)
  refine (HK.out _).mono ?_
  rintro e w1 ⟨rfl, b1⟩
  obtain ⟨x0, x1, x2, x3, x4, x5, x6, x7, -⟩ := at8 (at_below (at_new w #[.string rk, .int .u64 rp, .int .u32 rl, .int .u8 rn, .int .u8 rd, .int .u32 rf, .int .u64 rx, .string rb] 54) b1)
  go_wp2_with (fail)
  go_ret
  exact ⟨rfl, below_on (below_al (Below.refl _ _)) b1⟩
theorem refMay_any_4 (rk : ByteArray) (rp rl rn rd rf rx : Int) (rb : ByteArray) (w : World) (hz : rk.size ≤ 1000000) (h0 : ¬ (keyMay rk = false)) (h1 : ¬ (281474976710655 < rp)) (h2 : ¬ (63 < rn)) (h3 : ¬ (281474976710655 < rx)) (h4 : 1024 < rb.size) :
    Calls Try.prog 51 #[.agg #[.string rk, .int .u64 rp, .int .u32 rl, .int .u8 rn, .int .u8 rd, .int .u32 rf, .int .u64 rx, .string rb]] w fun e w' => e = .returned (.bool (false)) ∧ Below w.heap.size w w' := by
  have c0 : keyMay rk = true := by simpa using h0
  have c1 : decide (281474976710655 < rp) = false := decide_eq_false (by omega)
  have c2 : decide (63 < rn) = false := decide_eq_false (by omega)
  have c3 : decide (64 ≤ rn) = false := decide_eq_false (by omega)
  have c4 : decide (281474976710655 < rx) = false := decide_eq_false (by omega)
  have c5 : decide (1024 < (rb.size : Int)) = true := decide_eq_true (by omega)
  clear h0 h1 h2 h3 h4
  have HK := Lib.hid (fun w => refKey_any rk w hz)
  rw [c0] at HK
  go_enter Try.func51, Try.ntmps51
  go_wp2_with (fail)
  refine (HK.out _).mono ?_
  rintro e w1 ⟨rfl, b1⟩
  obtain ⟨x0, x1, x2, x3, x4, x5, x6, x7, -⟩ := at8 (at_below (at_new w #[.string rk, .int .u64 rp, .int .u32 rl, .int .u8 rn, .int .u8 rd, .int .u32 rf, .int .u64 rx, .string rb] 54) b1)
  go_wp2_with (fail)
  go_ret
  exact ⟨rfl, below_on (below_al (Below.refl _ _)) b1⟩
theorem refMay_any_5 (rk : ByteArray) (rp rl rn rd rf rx : Int) (rb : ByteArray) (w : World) (hz : rk.size ≤ 1000000) (h0 : ¬ (keyMay rk = false)) (h1 : ¬ (281474976710655 < rp)) (h2 : ¬ (63 < rn)) (h3 : ¬ (281474976710655 < rx)) (h4 : ¬ (1024 < rb.size)) (h5 : rd = 3) :
    Calls Try.prog 51 #[.agg #[.string rk, .int .u64 rp, .int .u32 rl, .int .u8 rn, .int .u8 rd, .int .u32 rf, .int .u64 rx, .string rb]] w fun e w' => e = .returned (.bool (true)) ∧ Below w.heap.size w w' := by
  have c0 : keyMay rk = true := by simpa using h0
  have c1 : decide (281474976710655 < rp) = false := decide_eq_false (by omega)
  have c2 : decide (63 < rn) = false := decide_eq_false (by omega)
  have c3 : decide (64 ≤ rn) = false := decide_eq_false (by omega)
  have c4 : decide (281474976710655 < rx) = false := decide_eq_false (by omega)
  have c5 : decide (1024 < (rb.size : Int)) = false := decide_eq_false (by omega)
  have c6 : (rd == 1) = false := beq_eq_false_iff_ne.2 (by omega)
  have c7 : (rd == 2) = false := beq_eq_false_iff_ne.2 (by omega)
  have c8 : (rd == 3) = true := beq_iff_eq.2 h5
  clear h0 h1 h2 h3 h4 h5
  have HK := Lib.hid (fun w => refKey_any rk w hz)
  rw [c0] at HK
  go_enter Try.func51, Try.ntmps51
  go_wp2_with (fail)
  refine (HK.out _).mono ?_
  rintro e w1 ⟨rfl, b1⟩
  obtain ⟨x0, x1, x2, x3, x4, x5, x6, x7, -⟩ := at8 (at_below (at_new w #[.string rk, .int .u64 rp, .int .u32 rl, .int .u8 rn, .int .u8 rd, .int .u32 rf, .int .u64 rx, .string rb] 54) b1)
  go_wp2_with (fail)
  go_ret
  exact ⟨rfl, below_on (below_al (Below.refl _ _)) b1⟩
theorem refMay_any_6 (rk : ByteArray) (rp rl rn rd rf rx : Int) (rb : ByteArray) (w : World) (hz : rk.size ≤ 1000000) (h0 : ¬ (keyMay rk = false)) (h1 : ¬ (281474976710655 < rp)) (h2 : ¬ (63 < rn)) (h3 : ¬ (281474976710655 < rx)) (h4 : ¬ (1024 < rb.size)) (h5 : ¬ (rd = 3)) (h6 : rd = 1) (h7 : rf = 0) (h8 : rx = 0) (h9 : rb.size = 0) :
    Calls Try.prog 51 #[.agg #[.string rk, .int .u64 rp, .int .u32 rl, .int .u8 rn, .int .u8 rd, .int .u32 rf, .int .u64 rx, .string rb]] w fun e w' => e = .returned (.bool (true)) ∧ Below w.heap.size w w' := by
  have c0 : keyMay rk = true := by simpa using h0
  have c1 : decide (281474976710655 < rp) = false := decide_eq_false (by omega)
  have c2 : decide (63 < rn) = false := decide_eq_false (by omega)
  have c3 : decide (64 ≤ rn) = false := decide_eq_false (by omega)
  have c4 : decide (281474976710655 < rx) = false := decide_eq_false (by omega)
  have c5 : decide (1024 < (rb.size : Int)) = false := decide_eq_false (by omega)
  have c6 : (rd == 3) = false := beq_eq_false_iff_ne.2 h5
  have c7 : (rd == 1) = true := beq_iff_eq.2 h6
  have c8 : (rf == 0) = true := beq_iff_eq.2 h7
  have c9 : (rx == 0) = true := beq_iff_eq.2 h8
  have c10 : rb.toList.isEmpty = true := empty_of h9
  clear h0 h1 h2 h3 h4 h5 h6 h7 h8 h9
  have HK := Lib.hid (fun w => refKey_any rk w hz)
  rw [c0] at HK
  go_enter Try.func51, Try.ntmps51
  go_wp2_with (fail)
  refine (HK.out _).mono ?_
  rintro e w1 ⟨rfl, b1⟩
  obtain ⟨x0, x1, x2, x3, x4, x5, x6, x7, -⟩ := at8 (at_below (at_new w #[.string rk, .int .u64 rp, .int .u32 rl, .int .u8 rn, .int .u8 rd, .int .u32 rf, .int .u64 rx, .string rb] 54) b1)
  go_wp2_with (fail)
  go_ret
  exact ⟨rfl, below_on (below_al (Below.refl _ _)) b1⟩
theorem refMay_any_7 (rk : ByteArray) (rp rl rn rd rf rx : Int) (rb : ByteArray) (w : World) (hz : rk.size ≤ 1000000) (h0 : ¬ (keyMay rk = false)) (h1 : ¬ (281474976710655 < rp)) (h2 : ¬ (63 < rn)) (h3 : ¬ (281474976710655 < rx)) (h4 : ¬ (1024 < rb.size)) (h5 : ¬ (rd = 3)) (h6 : rd = 1) (h7 : rf = 0) (h8 : rx = 0) (h9 : ¬ (rb.size = 0)) :
    Calls Try.prog 51 #[.agg #[.string rk, .int .u64 rp, .int .u32 rl, .int .u8 rn, .int .u8 rd, .int .u32 rf, .int .u64 rx, .string rb]] w fun e w' => e = .returned (.bool (false)) ∧ Below w.heap.size w w' := by
  have c0 : keyMay rk = true := by simpa using h0
  have c1 : decide (281474976710655 < rp) = false := decide_eq_false (by omega)
  have c2 : decide (63 < rn) = false := decide_eq_false (by omega)
  have c3 : decide (64 ≤ rn) = false := decide_eq_false (by omega)
  have c4 : decide (281474976710655 < rx) = false := decide_eq_false (by omega)
  have c5 : decide (1024 < (rb.size : Int)) = false := decide_eq_false (by omega)
  have c6 : (rd == 3) = false := beq_eq_false_iff_ne.2 h5
  have c7 : (rd == 1) = true := beq_iff_eq.2 h6
  have c8 : (rf == 0) = true := beq_iff_eq.2 h7
  have c9 : (rx == 0) = true := beq_iff_eq.2 h8
  have c10 : rb.toList.isEmpty = false := full_of h9
  clear h0 h1 h2 h3 h4 h5 h6 h7 h8 h9
  have HK := Lib.hid (fun w => refKey_any rk w hz)
  rw [c0] at HK
  go_enter Try.func51, Try.ntmps51
  go_wp2_with (fail)
  refine (HK.out _).mono ?_
  rintro e w1 ⟨rfl, b1⟩
  obtain ⟨x0, x1, x2, x3, x4, x5, x6, x7, -⟩ := at8 (at_below (at_new w #[.string rk, .int .u64 rp, .int .u32 rl, .int .u8 rn, .int .u8 rd, .int .u32 rf, .int .u64 rx, .string rb] 54) b1)
  go_wp2_with (fail)
  go_ret
  exact ⟨rfl, below_on (below_al (Below.refl _ _)) b1⟩
theorem refMay_any_8 (rk : ByteArray) (rp rl rn rd rf rx : Int) (rb : ByteArray) (w : World) (hz : rk.size ≤ 1000000) (h0 : ¬ (keyMay rk = false)) (h1 : ¬ (281474976710655 < rp)) (h2 : ¬ (63 < rn)) (h3 : ¬ (281474976710655 < rx)) (h4 : ¬ (1024 < rb.size)) (h5 : ¬ (rd = 3)) (h6 : rd = 1) (h7 : rf = 0) (h8 : ¬ (rx = 0)) :
    Calls Try.prog 51 #[.agg #[.string rk, .int .u64 rp, .int .u32 rl, .int .u8 rn, .int .u8 rd, .int .u32 rf, .int .u64 rx, .string rb]] w fun e w' => e = .returned (.bool (false)) ∧ Below w.heap.size w w' := by
  have c0 : keyMay rk = true := by simpa using h0
  have c1 : decide (281474976710655 < rp) = false := decide_eq_false (by omega)
  have c2 : decide (63 < rn) = false := decide_eq_false (by omega)
  have c3 : decide (64 ≤ rn) = false := decide_eq_false (by omega)
  have c4 : decide (281474976710655 < rx) = false := decide_eq_false (by omega)
  have c5 : decide (1024 < (rb.size : Int)) = false := decide_eq_false (by omega)
  have c6 : (rd == 3) = false := beq_eq_false_iff_ne.2 h5
  have c7 : (rd == 1) = true := beq_iff_eq.2 h6
  have c8 : (rf == 0) = true := beq_iff_eq.2 h7
  have c9 : (rx == 0) = false := beq_eq_false_iff_ne.2 h8
  clear h0 h1 h2 h3 h4 h5 h6 h7 h8
  have HK := Lib.hid (fun w => refKey_any rk w hz)
  rw [c0] at HK
  go_enter Try.func51, Try.ntmps51
  go_wp2_with (fail)
  refine (HK.out _).mono ?_
  rintro e w1 ⟨rfl, b1⟩
  obtain ⟨x0, x1, x2, x3, x4, x5, x6, x7, -⟩ := at8 (at_below (at_new w #[.string rk, .int .u64 rp, .int .u32 rl, .int .u8 rn, .int .u8 rd, .int .u32 rf, .int .u64 rx, .string rb] 54) b1)
  go_wp2_with (fail)
  go_ret
  exact ⟨rfl, below_on (below_al (Below.refl _ _)) b1⟩
theorem refMay_any_9 (rk : ByteArray) (rp rl rn rd rf rx : Int) (rb : ByteArray) (w : World) (hz : rk.size ≤ 1000000) (h0 : ¬ (keyMay rk = false)) (h1 : ¬ (281474976710655 < rp)) (h2 : ¬ (63 < rn)) (h3 : ¬ (281474976710655 < rx)) (h4 : ¬ (1024 < rb.size)) (h5 : ¬ (rd = 3)) (h6 : rd = 1) (h7 : ¬ (rf = 0)) :
    Calls Try.prog 51 #[.agg #[.string rk, .int .u64 rp, .int .u32 rl, .int .u8 rn, .int .u8 rd, .int .u32 rf, .int .u64 rx, .string rb]] w fun e w' => e = .returned (.bool (false)) ∧ Below w.heap.size w w' := by
  have c0 : keyMay rk = true := by simpa using h0
  have c1 : decide (281474976710655 < rp) = false := decide_eq_false (by omega)
  have c2 : decide (63 < rn) = false := decide_eq_false (by omega)
  have c3 : decide (64 ≤ rn) = false := decide_eq_false (by omega)
  have c4 : decide (281474976710655 < rx) = false := decide_eq_false (by omega)
  have c5 : decide (1024 < (rb.size : Int)) = false := decide_eq_false (by omega)
  have c6 : (rd == 3) = false := beq_eq_false_iff_ne.2 h5
  have c7 : (rd == 1) = true := beq_iff_eq.2 h6
  have c8 : (rf == 0) = false := beq_eq_false_iff_ne.2 h7
  clear h0 h1 h2 h3 h4 h5 h6 h7
  have HK := Lib.hid (fun w => refKey_any rk w hz)
  rw [c0] at HK
  go_enter Try.func51, Try.ntmps51
  go_wp2_with (fail)
  refine (HK.out _).mono ?_
  rintro e w1 ⟨rfl, b1⟩
  obtain ⟨x0, x1, x2, x3, x4, x5, x6, x7, -⟩ := at8 (at_below (at_new w #[.string rk, .int .u64 rp, .int .u32 rl, .int .u8 rn, .int .u8 rd, .int .u32 rf, .int .u64 rx, .string rb] 54) b1)
  go_wp2_with (fail)
  go_ret
  exact ⟨rfl, below_on (below_al (Below.refl _ _)) b1⟩
theorem refMay_any_10 (rk : ByteArray) (rp rl rn rd rf rx : Int) (rb : ByteArray) (w : World) (hz : rk.size ≤ 1000000) (h0 : ¬ (keyMay rk = false)) (h1 : ¬ (281474976710655 < rp)) (h2 : ¬ (63 < rn)) (h3 : ¬ (281474976710655 < rx)) (h4 : ¬ (1024 < rb.size)) (h5 : ¬ (rd = 3)) (h6 : ¬ (rd = 1)) (h7 : rd = 2) (h8 : rf = 0) (h9 : rx = 0) (h10 : rb.size = 0) :
    Calls Try.prog 51 #[.agg #[.string rk, .int .u64 rp, .int .u32 rl, .int .u8 rn, .int .u8 rd, .int .u32 rf, .int .u64 rx, .string rb]] w fun e w' => e = .returned (.bool (true)) ∧ Below w.heap.size w w' := by
  have c0 : keyMay rk = true := by simpa using h0
  have c1 : decide (281474976710655 < rp) = false := decide_eq_false (by omega)
  have c2 : decide (63 < rn) = false := decide_eq_false (by omega)
  have c3 : decide (64 ≤ rn) = false := decide_eq_false (by omega)
  have c4 : decide (281474976710655 < rx) = false := decide_eq_false (by omega)
  have c5 : decide (1024 < (rb.size : Int)) = false := decide_eq_false (by omega)
  have c6 : (rd == 3) = false := beq_eq_false_iff_ne.2 h5
  have c7 : (rd == 1) = false := beq_eq_false_iff_ne.2 h6
  have c8 : (rd == 2) = true := beq_iff_eq.2 h7
  have c9 : (rf == 0) = true := beq_iff_eq.2 h8
  have c10 : (rx == 0) = true := beq_iff_eq.2 h9
  have c11 : rb.toList.isEmpty = true := empty_of h10
  clear h0 h1 h2 h3 h4 h5 h6 h7 h8 h9 h10
  have HK := Lib.hid (fun w => refKey_any rk w hz)
  rw [c0] at HK
  go_enter Try.func51, Try.ntmps51
  go_wp2_with (fail)
  refine (HK.out _).mono ?_
  rintro e w1 ⟨rfl, b1⟩
  obtain ⟨x0, x1, x2, x3, x4, x5, x6, x7, -⟩ := at8 (at_below (at_new w #[.string rk, .int .u64 rp, .int .u32 rl, .int .u8 rn, .int .u8 rd, .int .u32 rf, .int .u64 rx, .string rb] 54) b1)
  go_wp2_with (fail)
  go_ret
  exact ⟨rfl, below_on (below_al (Below.refl _ _)) b1⟩
theorem refMay_any_11 (rk : ByteArray) (rp rl rn rd rf rx : Int) (rb : ByteArray) (w : World) (hz : rk.size ≤ 1000000) (h0 : ¬ (keyMay rk = false)) (h1 : ¬ (281474976710655 < rp)) (h2 : ¬ (63 < rn)) (h3 : ¬ (281474976710655 < rx)) (h4 : ¬ (1024 < rb.size)) (h5 : ¬ (rd = 3)) (h6 : ¬ (rd = 1)) (h7 : rd = 2) (h8 : rf = 0) (h9 : rx = 0) (h10 : ¬ (rb.size = 0)) :
    Calls Try.prog 51 #[.agg #[.string rk, .int .u64 rp, .int .u32 rl, .int .u8 rn, .int .u8 rd, .int .u32 rf, .int .u64 rx, .string rb]] w fun e w' => e = .returned (.bool (false)) ∧ Below w.heap.size w w' := by
  have c0 : keyMay rk = true := by simpa using h0
  have c1 : decide (281474976710655 < rp) = false := decide_eq_false (by omega)
  have c2 : decide (63 < rn) = false := decide_eq_false (by omega)
  have c3 : decide (64 ≤ rn) = false := decide_eq_false (by omega)
  have c4 : decide (281474976710655 < rx) = false := decide_eq_false (by omega)
  have c5 : decide (1024 < (rb.size : Int)) = false := decide_eq_false (by omega)
  have c6 : (rd == 3) = false := beq_eq_false_iff_ne.2 h5
  have c7 : (rd == 1) = false := beq_eq_false_iff_ne.2 h6
  have c8 : (rd == 2) = true := beq_iff_eq.2 h7
  have c9 : (rf == 0) = true := beq_iff_eq.2 h8
  have c10 : (rx == 0) = true := beq_iff_eq.2 h9
  have c11 : rb.toList.isEmpty = false := full_of h10
  clear h0 h1 h2 h3 h4 h5 h6 h7 h8 h9 h10
  have HK := Lib.hid (fun w => refKey_any rk w hz)
  rw [c0] at HK
  go_enter Try.func51, Try.ntmps51
  go_wp2_with (fail)
  refine (HK.out _).mono ?_
  rintro e w1 ⟨rfl, b1⟩
  obtain ⟨x0, x1, x2, x3, x4, x5, x6, x7, -⟩ := at8 (at_below (at_new w #[.string rk, .int .u64 rp, .int .u32 rl, .int .u8 rn, .int .u8 rd, .int .u32 rf, .int .u64 rx, .string rb] 54) b1)
  go_wp2_with (fail)
  go_ret
  exact ⟨rfl, below_on (below_al (Below.refl _ _)) b1⟩
theorem refMay_any_12 (rk : ByteArray) (rp rl rn rd rf rx : Int) (rb : ByteArray) (w : World) (hz : rk.size ≤ 1000000) (h0 : ¬ (keyMay rk = false)) (h1 : ¬ (281474976710655 < rp)) (h2 : ¬ (63 < rn)) (h3 : ¬ (281474976710655 < rx)) (h4 : ¬ (1024 < rb.size)) (h5 : ¬ (rd = 3)) (h6 : ¬ (rd = 1)) (h7 : rd = 2) (h8 : rf = 0) (h9 : ¬ (rx = 0)) :
    Calls Try.prog 51 #[.agg #[.string rk, .int .u64 rp, .int .u32 rl, .int .u8 rn, .int .u8 rd, .int .u32 rf, .int .u64 rx, .string rb]] w fun e w' => e = .returned (.bool (false)) ∧ Below w.heap.size w w' := by
  have c0 : keyMay rk = true := by simpa using h0
  have c1 : decide (281474976710655 < rp) = false := decide_eq_false (by omega)
  have c2 : decide (63 < rn) = false := decide_eq_false (by omega)
  have c3 : decide (64 ≤ rn) = false := decide_eq_false (by omega)
  have c4 : decide (281474976710655 < rx) = false := decide_eq_false (by omega)
  have c5 : decide (1024 < (rb.size : Int)) = false := decide_eq_false (by omega)
  have c6 : (rd == 3) = false := beq_eq_false_iff_ne.2 h5
  have c7 : (rd == 1) = false := beq_eq_false_iff_ne.2 h6
  have c8 : (rd == 2) = true := beq_iff_eq.2 h7
  have c9 : (rf == 0) = true := beq_iff_eq.2 h8
  have c10 : (rx == 0) = false := beq_eq_false_iff_ne.2 h9
  clear h0 h1 h2 h3 h4 h5 h6 h7 h8 h9
  have HK := Lib.hid (fun w => refKey_any rk w hz)
  rw [c0] at HK
  go_enter Try.func51, Try.ntmps51
  go_wp2_with (fail)
  refine (HK.out _).mono ?_
  rintro e w1 ⟨rfl, b1⟩
  obtain ⟨x0, x1, x2, x3, x4, x5, x6, x7, -⟩ := at8 (at_below (at_new w #[.string rk, .int .u64 rp, .int .u32 rl, .int .u8 rn, .int .u8 rd, .int .u32 rf, .int .u64 rx, .string rb] 54) b1)
  go_wp2_with (fail)
  go_ret
  exact ⟨rfl, below_on (below_al (Below.refl _ _)) b1⟩
theorem refMay_any_13 (rk : ByteArray) (rp rl rn rd rf rx : Int) (rb : ByteArray) (w : World) (hz : rk.size ≤ 1000000) (h0 : ¬ (keyMay rk = false)) (h1 : ¬ (281474976710655 < rp)) (h2 : ¬ (63 < rn)) (h3 : ¬ (281474976710655 < rx)) (h4 : ¬ (1024 < rb.size)) (h5 : ¬ (rd = 3)) (h6 : ¬ (rd = 1)) (h7 : rd = 2) (h8 : ¬ (rf = 0)) :
    Calls Try.prog 51 #[.agg #[.string rk, .int .u64 rp, .int .u32 rl, .int .u8 rn, .int .u8 rd, .int .u32 rf, .int .u64 rx, .string rb]] w fun e w' => e = .returned (.bool (false)) ∧ Below w.heap.size w w' := by
  have c0 : keyMay rk = true := by simpa using h0
  have c1 : decide (281474976710655 < rp) = false := decide_eq_false (by omega)
  have c2 : decide (63 < rn) = false := decide_eq_false (by omega)
  have c3 : decide (64 ≤ rn) = false := decide_eq_false (by omega)
  have c4 : decide (281474976710655 < rx) = false := decide_eq_false (by omega)
  have c5 : decide (1024 < (rb.size : Int)) = false := decide_eq_false (by omega)
  have c6 : (rd == 3) = false := beq_eq_false_iff_ne.2 h5
  have c7 : (rd == 1) = false := beq_eq_false_iff_ne.2 h6
  have c8 : (rd == 2) = true := beq_iff_eq.2 h7
  have c9 : (rf == 0) = false := beq_eq_false_iff_ne.2 h8
  clear h0 h1 h2 h3 h4 h5 h6 h7 h8
  have HK := Lib.hid (fun w => refKey_any rk w hz)
  rw [c0] at HK
  go_enter Try.func51, Try.ntmps51
  go_wp2_with (fail)
  refine (HK.out _).mono ?_
  rintro e w1 ⟨rfl, b1⟩
  obtain ⟨x0, x1, x2, x3, x4, x5, x6, x7, -⟩ := at8 (at_below (at_new w #[.string rk, .int .u64 rp, .int .u32 rl, .int .u8 rn, .int .u8 rd, .int .u32 rf, .int .u64 rx, .string rb] 54) b1)
  go_wp2_with (fail)
  go_ret
  exact ⟨rfl, below_on (below_al (Below.refl _ _)) b1⟩
theorem refMay_any_14 (rk : ByteArray) (rp rl rn rd rf rx : Int) (rb : ByteArray) (w : World) (hz : rk.size ≤ 1000000) (h0 : ¬ (keyMay rk = false)) (h1 : ¬ (281474976710655 < rp)) (h2 : ¬ (63 < rn)) (h3 : ¬ (281474976710655 < rx)) (h4 : ¬ (1024 < rb.size)) (h5 : ¬ (rd = 3)) (h6 : ¬ (rd = 1)) (h7 : ¬ (rd = 2)) :
    Calls Try.prog 51 #[.agg #[.string rk, .int .u64 rp, .int .u32 rl, .int .u8 rn, .int .u8 rd, .int .u32 rf, .int .u64 rx, .string rb]] w fun e w' => e = .returned (.bool (false)) ∧ Below w.heap.size w w' := by
  have c0 : keyMay rk = true := by simpa using h0
  have c1 : decide (281474976710655 < rp) = false := decide_eq_false (by omega)
  have c2 : decide (63 < rn) = false := decide_eq_false (by omega)
  have c3 : decide (64 ≤ rn) = false := decide_eq_false (by omega)
  have c4 : decide (281474976710655 < rx) = false := decide_eq_false (by omega)
  have c5 : decide (1024 < (rb.size : Int)) = false := decide_eq_false (by omega)
  have c6 : (rd == 3) = false := beq_eq_false_iff_ne.2 h5
  have c7 : (rd == 1) = false := beq_eq_false_iff_ne.2 h6
  have c8 : (rd == 2) = false := beq_eq_false_iff_ne.2 h7
  clear h0 h1 h2 h3 h4 h5 h6 h7
  have HK := Lib.hid (fun w => refKey_any rk w hz)
  rw [c0] at HK
  go_enter Try.func51, Try.ntmps51
  go_wp2_with (fail)
  refine (HK.out _).mono ?_
  rintro e w1 ⟨rfl, b1⟩
  obtain ⟨x0, x1, x2, x3, x4, x5, x6, x7, -⟩ := at8 (at_below (at_new w #[.string rk, .int .u64 rp, .int .u32 rl, .int .u8 rn, .int .u8 rd, .int .u32 rf, .int .u64 rx, .string rb] 54) b1)
  go_wp2_with (fail)
  go_ret
  exact ⟨rfl, below_on (below_al (Below.refl _ _)) b1⟩
theorem refMay_any (rk : ByteArray) (rp rl rn rd rf rx : Int) (rb : ByteArray) (w : World) (hz : rk.size ≤ 1000000) :
    Calls Try.prog 51 #[.agg #[.string rk, .int .u64 rp, .int .u32 rl, .int .u8 rn, .int .u8 rd, .int .u32 rf, .int .u64 rx, .string rb]] w fun e w' => e = .returned (.bool (mayR rk rp rn rd rf rx rb)) ∧ Below w.heap.size w w' := by
  unfold mayR
  by_cases h0 : keyMay rk = false
  · rw [if_pos h0]
    exact refMay_any_0 rk rp rl rn rd rf rx rb w hz h0
  · by_cases h1 : 281474976710655 < rp
    · rw [if_neg h0, if_pos h1]
      exact refMay_any_1 rk rp rl rn rd rf rx rb w hz h0 h1
    · by_cases h2 : 63 < rn
      · rw [if_neg h0, if_neg h1, if_pos h2]
        exact refMay_any_2 rk rp rl rn rd rf rx rb w hz h0 h1 h2
      · by_cases h3 : 281474976710655 < rx
        · rw [if_neg h0, if_neg h1, if_neg h2, if_pos h3]
          exact refMay_any_3 rk rp rl rn rd rf rx rb w hz h0 h1 h2 h3
        · by_cases h4 : 1024 < rb.size
          · rw [if_neg h0, if_neg h1, if_neg h2, if_neg h3, if_pos h4]
            exact refMay_any_4 rk rp rl rn rd rf rx rb w hz h0 h1 h2 h3 h4
          · by_cases h5 : rd = 3
            · rw [if_neg h0, if_neg h1, if_neg h2, if_neg h3, if_neg h4, if_pos h5]
              exact refMay_any_5 rk rp rl rn rd rf rx rb w hz h0 h1 h2 h3 h4 h5
            · by_cases h6 : rd = 1
              · by_cases h7 : rf = 0
                · by_cases h8 : rx = 0
                  · by_cases h9 : rb.size = 0
                    · rw [if_neg h0, if_neg h1, if_neg h2, if_neg h3, if_neg h4, if_neg h5, if_pos h6, if_pos h7, if_pos h8, if_pos h9]
                      exact refMay_any_6 rk rp rl rn rd rf rx rb w hz h0 h1 h2 h3 h4 h5 h6 h7 h8 h9
                    · rw [if_neg h0, if_neg h1, if_neg h2, if_neg h3, if_neg h4, if_neg h5, if_pos h6, if_pos h7, if_pos h8, if_neg h9]
                      exact refMay_any_7 rk rp rl rn rd rf rx rb w hz h0 h1 h2 h3 h4 h5 h6 h7 h8 h9
                  · rw [if_neg h0, if_neg h1, if_neg h2, if_neg h3, if_neg h4, if_neg h5, if_pos h6, if_pos h7, if_neg h8]
                    exact refMay_any_8 rk rp rl rn rd rf rx rb w hz h0 h1 h2 h3 h4 h5 h6 h7 h8
                · rw [if_neg h0, if_neg h1, if_neg h2, if_neg h3, if_neg h4, if_neg h5, if_pos h6, if_neg h7]
                  exact refMay_any_9 rk rp rl rn rd rf rx rb w hz h0 h1 h2 h3 h4 h5 h6 h7
              · by_cases h7 : rd = 2
                · by_cases h8 : rf = 0
                  · by_cases h9 : rx = 0
                    · by_cases h10 : rb.size = 0
                      · rw [if_neg h0, if_neg h1, if_neg h2, if_neg h3, if_neg h4, if_neg h5, if_neg h6, if_pos h7, if_pos h8, if_pos h9, if_pos h10]
                        exact refMay_any_10 rk rp rl rn rd rf rx rb w hz h0 h1 h2 h3 h4 h5 h6 h7 h8 h9 h10
                      · rw [if_neg h0, if_neg h1, if_neg h2, if_neg h3, if_neg h4, if_neg h5, if_neg h6, if_pos h7, if_pos h8, if_pos h9, if_neg h10]
                        exact refMay_any_11 rk rp rl rn rd rf rx rb w hz h0 h1 h2 h3 h4 h5 h6 h7 h8 h9 h10
                    · rw [if_neg h0, if_neg h1, if_neg h2, if_neg h3, if_neg h4, if_neg h5, if_neg h6, if_pos h7, if_pos h8, if_neg h9]
                      exact refMay_any_12 rk rp rl rn rd rf rx rb w hz h0 h1 h2 h3 h4 h5 h6 h7 h8 h9
                  · rw [if_neg h0, if_neg h1, if_neg h2, if_neg h3, if_neg h4, if_neg h5, if_neg h6, if_pos h7, if_neg h8]
                    exact refMay_any_13 rk rp rl rn rd rf rx rb w hz h0 h1 h2 h3 h4 h5 h6 h7 h8
                · rw [if_neg h0, if_neg h1, if_neg h2, if_neg h3, if_neg h4, if_neg h5, if_neg h6, if_neg h7]
                  exact refMay_any_14 rk rp rl rn rd rf rx rb w hz h0 h1 h2 h3 h4 h5 h6 h7
end Go.Proofs.Ytdjompbhlkgmbaa.Rec
end
section
/- A record's bytes: the walks (own text; printed by wip/tools/gen_recput.py, a program of this session). -/
namespace Go.Proofs.Ytdjompbhlkgmbaa.Rec
open Go.RowKit Go.Proofs.Ytdjompbhlkgmbaa.Mem
open Go.Proofs.Ytdjompbhlkgmbaa.Num (putB putE textB)
set_option linter.unusedVariables false
set_option linter.unusedSimpArgs false
/-- The numbers of a record, in their row. -/
def lV (p l n d f x : Int) : Nat → Int
  | 0 => p
  | 1 => l
  | 2 => n
  | 3 => d
  | 4 => f
  | _ => x
/-- The bytes behind j numbers. -/
def accB (k : ByteArray) (v : Nat → Int) : Nat → ByteArray
  | 0 => textB k
  | j + 1 => accB k v j ++ putB (v j)
/-- A record's bytes. -/
def recB (k : ByteArray) (p l n d f x : Int) (b : ByteArray) : ByteArray := if d = 3 then accB k (lV p l n d f x) 6 ++ textB b else accB k (lV p l n d f x) 4
def recE (k : ByteArray) (p n d f x : Int) (b : ByteArray) : Int := if mayR k p n d f x b = true then 0 else 1
theorem putB_8 (n : Int) : (putB n).size ≤ 8 := by
  by_cases h : n < 4611686018427387904
  · rw [Num.putB_size h, Num.bytesL_length]; (repeat' split) <;> decide
  · have e1 : putB n = ⟨#[]⟩ := if_pos (by omega)
    rw [e1]; decide
theorem textB_size (t : ByteArray) : (textB t).size ≤ 8 + t.size := by
  unfold textB
  rw [ByteArray.size_append]
  have := putB_8 t.size
  omega
theorem accB_size (k : ByteArray) (v : Nat → Int) : ∀ j, (accB k v j).size ≤ 8 + k.size + 8 * j
  | 0 => textB_size k
  | j + 1 => by
    unfold accB
    rw [ByteArray.size_append]
    have := accB_size k v j
    have := putB_8 (v j)
    omega
theorem mayR_size {k : ByteArray} {p n d f x : Int} {b : ByteArray} (h : mayR k p n d f x b = true) : k.size ≤ 250 ∧ b.size ≤ 1024 := by
  unfold mayR at h
  by_cases h0 : keyMay k = false
  · rw [if_pos h0] at h; cases h
  rw [if_neg h0] at h
  constructor
  · by_cases h1 : k.size ≤ 250
    · exact h1
    · exact absurd (keyMay_size (Or.inr (by omega))) h0
  · by_cases h1 : 1024 < b.size
    · exfalso
      split at h
      · cases h
      · split at h
        · cases h
        · split at h
          · cases h
          · first | (rw [if_pos h1] at h; cases h) | cases h
    · omega
/-- Two numbers laid behind four: a new row. -/
theorem six (W : World) (Z : Array Value) (v : Nat → Int) (j : Nat) (hj : j < 6) :
    (W.alloc (.cells (#[.int .u64 (v 0), .int .u64 (v 1), .int .u64 (v 2), .int .u64 (v 3)] ++ (#[.int .u64 (v 4), .int .u64 (v 5)] ++ Z)) 50)).drew.cell? ⟨W.heap.size, j, none⟩ = some (.int .u64 (v j)) := by
  show (World.alloc W _).cell? ⟨W.heap.size, j, none⟩ = _
  rw [World.cell?_alloc_mark, ← Array.append_assoc, Array.getElem?_append_left (by simpa using hj)]
  match j, hj with
  | 0, _ => rfl
  | 1, _ => rfl
  | 2, _ => rfl
  | 3, _ => rfl
  | 4, _ => rfl
  | 5, _ => rfl
theorem recPut_no (rk : ByteArray) (rp rl rn rd rf rx : Int) (rb : ByteArray) (w : World) (hk : rk.size ≤ 1000000) (hm : mayR rk rp rn rd rf rx rb = false) :
    Calls Try.prog 22 #[.agg #[.string rk, .int .u64 rp, .int .u32 rl, .int .u8 rn, .int .u8 rd, .int .u32 rf, .int .u64 rx, .string rb]] w fun e w' => e = .returned (.tuple #[.string (⟨#[]⟩), .int .i64 (1)]) ∧ Below w.heap.size w w' := by
  have hy := fun w => may_any rk rp rl rn rd rf rx rb w hk
  rw [hm] at hy
  have HY := Lib.hid hy
  clear hy hm
  go_enter Try.func22, Try.ntmps22
  go_wp2_with (fail)
  refine (HY.out _).mono ?_
  rintro e w1 ⟨rfl, b1⟩
  go_wp2_with (fail)
  go_ret2
  exact ⟨rfl, below_on (below_al (Below.refl _ _)) b1⟩
set_option maxRecDepth 100000 in
set_option maxHeartbeats 1600000 in
theorem recPut_m (rk : ByteArray) (rp rl rn rd rf rx : Int) (rb : ByteArray) (w : World) (hk : rk.size ≤ 1000000) (hm : mayR rk rp rn rd rf rx rb = true) (hd : ¬ rd = 3) (h0 : (0 ≤ rp ∧ rp ≤ 18446744073709551615) ∧ (0 ≤ rl ∧ rl ≤ 4294967295) ∧ (0 ≤ rn ∧ rn ≤ 255) ∧ (0 ≤ rd ∧ rd ≤ 255) ∧ (0 ≤ rf ∧ rf ≤ 4294967295) ∧ (0 ≤ rx ∧ rx ≤ 18446744073709551615)) :
    Calls Try.prog 22 #[.agg #[.string rk, .int .u64 rp, .int .u32 rl, .int .u8 rn, .int .u8 rd, .int .u32 rf, .int .u64 rx, .string rb]] w fun e w' => e = .returned (.tuple #[.string (accB rk (lV rp rl rn rd rf rx) 4), .int .i64 (0)]) ∧ Below w.heap.size w w' := by
  obtain ⟨s1, s2⟩ := mayR_size hm
  have hy := fun w => may_any rk rp rl rn rd rf rx rb w hk
  rw [hm] at hy
  have HY := Lib.hid hy
  have c3 : (rd == 3) = false := beq_eq_false_iff_ne.2 hd
  have HPK := Lib.hid (fun w => Num.putText_any rk w (by omega))
  have HPB := Lib.hid (fun w => Num.putText_any rb w (by omega))
  have hv : ∀ j, 0 ≤ lV rp rl rn rd rf rx j := fun j => by
    match j with
    | 0 => exact h0.1.1
    | 1 => exact h0.2.1.1
    | 2 => exact h0.2.2.1.1
    | 3 => exact h0.2.2.2.1.1
    | 4 => exact h0.2.2.2.2.1.1
    | j + 5 => exact h0.2.2.2.2.2.1
  have HPN := Lib.hid (fun j w => Num.put_any (lV rp rl rn rd rf rx j) w (hv j))
  have HS := Lib.hid (fun j => accB_size rk (lV rp rl rn rd rf rx) j)
  have HP8 := Lib.hid (fun j => putB_8 (lV rp rl rn rd rf rx j))
  have sb := textB_size rb
  have e0 : accB rk (lV rp rl rn rd rf rx) 0 = textB rk := rfl
  have he0 : ∀ j, accB rk (lV rp rl rn rd rf rx) (j + 1) = accB rk (lV rp rl rn rd rf rx) j ++ putB (lV rp rl rn rd rf rx j) := fun _ => rfl
  have HE := Lib.hid he0
  clear he0
  have HL := Lib.hid (show (#[.int .u64 rp, .int .u64 rl, .int .u64 rn, .int .u64 rd] : Array Value) = #[.int .u64 (lV rp rl rn rd rf rx 0), .int .u64 (lV rp rl rn rd rf rx 1), .int .u64 (lV rp rl rn rd rf rx 2), .int .u64 (lV rp rl rn rd rf rx 3)] from rfl)
  have HL2 := Lib.hid (show (#[.int .u64 rf, .int .u64 rx] : Array Value) = #[.int .u64 (lV rp rl rn rd rf rx 4), .int .u64 (lV rp rl rn rd rf rx 5)] from rfl)
  obtain ⟨⟨p0, p1⟩, ⟨l0, l1⟩, ⟨n0, n1⟩, ⟨d0, d1⟩, ⟨f0, f1⟩, g0, g1⟩ := h0
  clear hy hm hd hv
  rw [← e0] at HPK
  generalize lV rp rl rn rd rf rx = v at *
  generalize accB rk v = acc at *
  go_enter Try.func22, Try.ntmps22
  go_wp2_with (fail)
  refine (HY.out _).mono ?_
  rintro e w1 ⟨rfl, b1⟩
  have HA := Lib.hid (at_below (at_new w #[.string rk, .int .u64 rp, .int .u32 rl, .int .u8 rn, .int .u8 rd, .int .u32 rf, .int .u64 rx, .string rb] 54) b1)
  have HB := Lib.hid (below_on (below_al (o := .cells #[.string rk, .int .u64 rp, .int .u32 rl, .int .u8 rn, .int .u8 rd, .int .u32 rf, .int .u64 rx, .string rb] 54) (Below.refl w.heap.size w)) b1)
  clear b1
  obtain ⟨x0, x1, x2, x3, x4, x5, x6, x7, -⟩ := at8 HA.out
  go_wp2_with (fail)
  clear x0 x1 x2 x3 x4 x5 x6 x7
  refine (HPK.out _).mono ?_
  rintro e w2 ⟨rfl, b1⟩
  replace HA := Lib.hid (at_below HA.out b1)
  replace HB := Lib.hid (below_on HB.out b1)
  clear b1
  obtain ⟨x0, x1, x2, x3, x4, x5, x6, x7, -⟩ := at8 HA.out
  have hlt2 : w.heap.size < w2.heap.size := At.lt HA.out
  go_upto_region 7 with (fail)
  have HO := Lib.hid (at_new w2 #[.int .u64 rp, .int .u64 rl, .int .u64 rn, .int .u64 rd] 50)
  replace HA := Lib.hid (at_alloc (o := .cells #[.int .u64 rp, .int .u64 rl, .int .u64 rn, .int .u64 rd] 50) HA.out)
  replace HB := Lib.hid (below_al (o := .cells #[.int .u64 rp, .int .u64 rl, .int .u64 rn, .int .u64 rd] 50) HB.out)
  clear x0 x1 x2 x3 x4 x5 x6 x7
  generalize w2.alloc (.cells #[.int .u64 rp, .int .u64 rl, .int .u64 rn, .int .u64 rd] 50) = w3 at *
  generalize w2.heap.size = y at *
  have hlt3 : w.heap.size < w3.heap.size := At.lt HA.out
  have hlt4 : y < w3.heap.size := At.lt HO.out
  have hq : y < w3.heap.size := At.lt HO.out
  have HQ := Lib.hid (show ∀ j, j < 4 → w3.cell? ⟨y, j, none⟩ = some (.int .u64 (v j)) from fun j hj => by
      rw [HO.out.cell j, HL.out]
      match j, hj with
      | 0, _ => rfl
      | 1, _ => rfl
      | 2, _ => rfl
      | 3, _ => rfl)
  clear HO HL HL2
  go_wp2_with (fail)
  go_loopw [4, 44] (fun s i w' => ∃ j : Nat, j ≤ 4 ∧ s = .string (acc j) ∧ i = .int .i64 j ∧ y < w'.heap.size ∧ Hid (∀ j, j < 4 → w'.cell? ⟨y, j, none⟩ = some (.int .u64 (v j))) ∧ Hid (At w' w.heap.size #[.string rk, .int .u64 rp, .int .u32 rl, .int .u8 rn, .int .u8 rd, .int .u32 rf, .int .u64 rx, .string rb] 54) ∧ Hid (Below w.heap.size w w')) (fun _ i _ => 4 - (intOf i).toNat)
  case atStart => exact ⟨0, by omega, by first | rfl | rw [e0], rfl, hq, HQ, HA, HB⟩
  case round =>
    clear HQ HA HB hq
    obtain ⟨j, hj, rfl, rfl, hq, HQ, HA, HB⟩ := hrel
    have z1 := HS.out j
    have z2 := HP8.out j
    by_cases hlt : j < 4
    · have e1 := HQ.out j hlt
      have he := HE.out j
      have HN := Lib.hid (HPN.out j)
      generalize putB (v j) = u at *
      go_wp2_with (fail)
      refine (HN.out _).mono ?_
      rintro e w5 ⟨rfl, b5⟩
      have HQ5 := Lib.hid (show ∀ j, j < 4 → w5.cell? ⟨y, j, none⟩ = some (.int .u64 (v j)) from fun i hi => by rw [b5.cell (p := ⟨y, i, none⟩) hq]; exact HQ.out i hi)
      have HA5 := Lib.hid (at_below HA.out b5)
      have HB5 := Lib.hid (below_on HB.out b5)
      have hq5 : y < w5.heap.size := Nat.lt_of_lt_of_le hq b5.size
      clear b5 HQ HA HB e1 HN
      go_wp2_with (fail)
      exact ⟨⟨j + 1, by omega, by first | rfl | rw [he], by go_num, hq5, HQ5, HA5, HB5⟩, by simp [intOf]; omega⟩
    · obtain rfl : j = 4 := by omega
      obtain ⟨x0, x1, x2, x3, x4, x5, x6, x7, -⟩ := at8 HA.out
      go_wp2_with (fail)
      go_ret2
      exact ⟨rfl, HB.out⟩
set_option maxRecDepth 100000 in
set_option maxHeartbeats 1600000 in
theorem recPut_v (rk : ByteArray) (rp rl rn rd rf rx : Int) (rb : ByteArray) (w : World) (hk : rk.size ≤ 1000000) (hm : mayR rk rp rn rd rf rx rb = true) (hd : rd = 3) (h0 : (0 ≤ rp ∧ rp ≤ 18446744073709551615) ∧ (0 ≤ rl ∧ rl ≤ 4294967295) ∧ (0 ≤ rn ∧ rn ≤ 255) ∧ (0 ≤ rd ∧ rd ≤ 255) ∧ (0 ≤ rf ∧ rf ≤ 4294967295) ∧ (0 ≤ rx ∧ rx ≤ 18446744073709551615)) :
    Calls Try.prog 22 #[.agg #[.string rk, .int .u64 rp, .int .u32 rl, .int .u8 rn, .int .u8 rd, .int .u32 rf, .int .u64 rx, .string rb]] w fun e w' => e = .returned (.tuple #[.string (accB rk (lV rp rl rn rd rf rx) 6 ++ textB rb), .int .i64 (0)]) ∧ Below w.heap.size w w' := by
  obtain ⟨s1, s2⟩ := mayR_size hm
  have hy := fun w => may_any rk rp rl rn rd rf rx rb w hk
  rw [hm] at hy
  have HY := Lib.hid hy
  have c3 : (rd == 3) = true := beq_iff_eq.2 hd
  have HPK := Lib.hid (fun w => Num.putText_any rk w (by omega))
  have HPB := Lib.hid (fun w => Num.putText_any rb w (by omega))
  have hv : ∀ j, 0 ≤ lV rp rl rn rd rf rx j := fun j => by
    match j with
    | 0 => exact h0.1.1
    | 1 => exact h0.2.1.1
    | 2 => exact h0.2.2.1.1
    | 3 => exact h0.2.2.2.1.1
    | 4 => exact h0.2.2.2.2.1.1
    | j + 5 => exact h0.2.2.2.2.2.1
  have HPN := Lib.hid (fun j w => Num.put_any (lV rp rl rn rd rf rx j) w (hv j))
  have HS := Lib.hid (fun j => accB_size rk (lV rp rl rn rd rf rx) j)
  have HP8 := Lib.hid (fun j => putB_8 (lV rp rl rn rd rf rx j))
  have sb := textB_size rb
  have e0 : accB rk (lV rp rl rn rd rf rx) 0 = textB rk := rfl
  have he0 : ∀ j, accB rk (lV rp rl rn rd rf rx) (j + 1) = accB rk (lV rp rl rn rd rf rx) j ++ putB (lV rp rl rn rd rf rx j) := fun _ => rfl
  have HE := Lib.hid he0
  clear he0
  have HL := Lib.hid (show (#[.int .u64 rp, .int .u64 rl, .int .u64 rn, .int .u64 rd] : Array Value) = #[.int .u64 (lV rp rl rn rd rf rx 0), .int .u64 (lV rp rl rn rd rf rx 1), .int .u64 (lV rp rl rn rd rf rx 2), .int .u64 (lV rp rl rn rd rf rx 3)] from rfl)
  have HL2 := Lib.hid (show (#[.int .u64 rf, .int .u64 rx] : Array Value) = #[.int .u64 (lV rp rl rn rd rf rx 4), .int .u64 (lV rp rl rn rd rf rx 5)] from rfl)
  obtain ⟨⟨p0, p1⟩, ⟨l0, l1⟩, ⟨n0, n1⟩, ⟨d0, d1⟩, ⟨f0, f1⟩, g0, g1⟩ := h0
  clear hy hm hd hv
  rw [← e0] at HPK
  generalize lV rp rl rn rd rf rx = v at *
  generalize accB rk v = acc at *
  go_enter Try.func22, Try.ntmps22
  go_wp2_with (fail)
  refine (HY.out _).mono ?_
  rintro e w1 ⟨rfl, b1⟩
  have HA := Lib.hid (at_below (at_new w #[.string rk, .int .u64 rp, .int .u32 rl, .int .u8 rn, .int .u8 rd, .int .u32 rf, .int .u64 rx, .string rb] 54) b1)
  have HB := Lib.hid (below_on (below_al (o := .cells #[.string rk, .int .u64 rp, .int .u32 rl, .int .u8 rn, .int .u8 rd, .int .u32 rf, .int .u64 rx, .string rb] 54) (Below.refl w.heap.size w)) b1)
  clear b1
  obtain ⟨x0, x1, x2, x3, x4, x5, x6, x7, -⟩ := at8 HA.out
  go_wp2_with (fail)
  clear x0 x1 x2 x3 x4 x5 x6 x7
  refine (HPK.out _).mono ?_
  rintro e w2 ⟨rfl, b1⟩
  replace HA := Lib.hid (at_below HA.out b1)
  replace HB := Lib.hid (below_on HB.out b1)
  clear b1
  obtain ⟨x0, x1, x2, x3, x4, x5, x6, x7, -⟩ := at8 HA.out
  have hlt2 : w.heap.size < w2.heap.size := At.lt HA.out
  go_upto_region 6 with (fail)
  have HO := Lib.hid (at_new w2 #[.int .u64 rp, .int .u64 rl, .int .u64 rn, .int .u64 rd] 50)
  replace HA := Lib.hid (at_alloc (o := .cells #[.int .u64 rp, .int .u64 rl, .int .u64 rn, .int .u64 rd] 50) HA.out)
  replace HB := Lib.hid (below_al (o := .cells #[.int .u64 rp, .int .u64 rl, .int .u64 rn, .int .u64 rd] 50) HB.out)
  clear x0 x1 x2 x3 x4 x5 x6 x7
  generalize w2.alloc (.cells #[.int .u64 rp, .int .u64 rl, .int .u64 rn, .int .u64 rd] 50) = w3 at *
  generalize w2.heap.size = y at *
  have hlt3 : w.heap.size < w3.heap.size := At.lt HA.out
  have hlt4 : y < w3.heap.size := At.lt HO.out
  obtain ⟨x0, x1, x2, x3, x4, x5, x6, x7, -⟩ := at8 HA.out
  obtain ⟨y0, y1, y2, y3, -⟩ := at4 HO.out
  go_upto_region 7 with (fail)
  generalize (Question.appendCap 6 4 50).cut (w3.tape w3.drawn (Question.appendCap 6 4 50)) = cap
  generalize Builtin.zeroCells #[.int .u64 0] (cap - 6) = Z
  replace HA := Lib.hid (at_drew (at_alloc (o := (.cells (#[.int .u64 rp, .int .u64 rl, .int .u64 rn, .int .u64 rd] ++ (#[.int .u64 rf, .int .u64 rx] ++ Z)) 50)) (at_alloc (o := (.cells #[.int .u64 rf, .int .u64 rx] 50)) HA.out)))
  replace HB := Lib.hid (Below.drew (below_al (o := (.cells (#[.int .u64 rp, .int .u64 rl, .int .u64 rn, .int .u64 rd] ++ (#[.int .u64 rf, .int .u64 rx] ++ Z)) 50)) (below_al (o := (.cells #[.int .u64 rf, .int .u64 rx] 50)) HB.out)))
  have HQ : Hid (∀ j, j < 6 → (((w3.alloc (.cells #[.int .u64 rf, .int .u64 rx] 50)).alloc (.cells (#[.int .u64 rp, .int .u64 rl, .int .u64 rn, .int .u64 rd] ++ (#[.int .u64 rf, .int .u64 rx] ++ Z)) 50)).drew).cell? ⟨w3.heap.size + 1, j, none⟩ = some (.int .u64 (v j))) := Lib.hid (fun j hj => by
    have h := six (w3.alloc (.cells #[.int .u64 rf, .int .u64 rx] 50)) Z v j hj
    rw [← HL.out, ← HL2.out, World.size_alloc] at h
    exact h)
  have hq : w3.heap.size + 1 < (((w3.alloc (.cells #[.int .u64 rf, .int .u64 rx] 50)).alloc (.cells (#[.int .u64 rp, .int .u64 rl, .int .u64 rn, .int .u64 rd] ++ (#[.int .u64 rf, .int .u64 rx] ++ Z)) 50)).drew).heap.size := World.block_lt_of_cell? _ _ (HQ.out 0 (by omega))
  clear x0 x1 x2 x3 x4 x5 x6 x7 y0 y1 y2 y3 HO HL HL2
  generalize ((w3.alloc (.cells #[.int .u64 rf, .int .u64 rx] 50)).alloc (.cells (#[.int .u64 rp, .int .u64 rl, .int .u64 rn, .int .u64 rd] ++ (#[.int .u64 rf, .int .u64 rx] ++ Z)) 50)).drew = w4 at *
  generalize w3.heap.size + 1 = z at *
  go_wp2_with (fail)
  go_loopw [4, 44] (fun s i w' => ∃ j : Nat, j ≤ 6 ∧ s = .string (acc j) ∧ i = .int .i64 j ∧ z < w'.heap.size ∧ Hid (∀ j, j < 6 → w'.cell? ⟨z, j, none⟩ = some (.int .u64 (v j))) ∧ Hid (At w' w.heap.size #[.string rk, .int .u64 rp, .int .u32 rl, .int .u8 rn, .int .u8 rd, .int .u32 rf, .int .u64 rx, .string rb] 54) ∧ Hid (Below w.heap.size w w')) (fun _ i _ => 6 - (intOf i).toNat)
  case atStart => exact ⟨0, by omega, by first | rfl | rw [e0], rfl, hq, HQ, HA, HB⟩
  case round =>
    clear HQ HA HB hq
    obtain ⟨j, hj, rfl, rfl, hq, HQ, HA, HB⟩ := hrel
    have z1 := HS.out j
    have z2 := HP8.out j
    by_cases hlt : j < 6
    · have e1 := HQ.out j hlt
      have he := HE.out j
      have HN := Lib.hid (HPN.out j)
      generalize putB (v j) = u at *
      go_wp2_with (fail)
      refine (HN.out _).mono ?_
      rintro e w5 ⟨rfl, b5⟩
      have HQ5 := Lib.hid (show ∀ j, j < 6 → w5.cell? ⟨z, j, none⟩ = some (.int .u64 (v j)) from fun i hi => by rw [b5.cell (p := ⟨z, i, none⟩) hq]; exact HQ.out i hi)
      have HA5 := Lib.hid (at_below HA.out b5)
      have HB5 := Lib.hid (below_on HB.out b5)
      have hq5 : z < w5.heap.size := Nat.lt_of_lt_of_le hq b5.size
      clear b5 HQ HA HB e1 HN
      go_wp2_with (fail)
      exact ⟨⟨j + 1, by omega, by first | rfl | rw [he], by go_num, hq5, HQ5, HA5, HB5⟩, by simp [intOf]; omega⟩
    · obtain rfl : j = 6 := by omega
      obtain ⟨x0, x1, x2, x3, x4, x5, x6, x7, -⟩ := at8 HA.out
      go_wp2_with (fail)
      refine (HPB.out _).mono ?_
      rintro e w5 ⟨rfl, b5⟩
      replace HB := Lib.hid (below_on HB.out b5)
      clear b5 x0 x1 x2 x3 x4 x5 x6 x7
      go_wp2_with (fail)
      go_ret2
      exact ⟨rfl, HB.out⟩
theorem recPut_any (rk : ByteArray) (rp rl rn rd rf rx : Int) (rb : ByteArray) (w : World) (hk : rk.size ≤ 1000000) (h0 : (0 ≤ rp ∧ rp ≤ 18446744073709551615) ∧ (0 ≤ rl ∧ rl ≤ 4294967295) ∧ (0 ≤ rn ∧ rn ≤ 255) ∧ (0 ≤ rd ∧ rd ≤ 255) ∧ (0 ≤ rf ∧ rf ≤ 4294967295) ∧ (0 ≤ rx ∧ rx ≤ 18446744073709551615)) :
    Calls Try.prog 22 #[.agg #[.string rk, .int .u64 rp, .int .u32 rl, .int .u8 rn, .int .u8 rd, .int .u32 rf, .int .u64 rx, .string rb]] w fun e w' => e = .returned (.tuple #[.string (if mayR rk rp rn rd rf rx rb = true then recB rk rp rl rn rd rf rx rb else ⟨#[]⟩), .int .i64 (recE rk rp rn rd rf rx rb)]) ∧ Below w.heap.size w w' := by
  unfold recE recB
  by_cases hm : mayR rk rp rn rd rf rx rb = true
  · rw [if_pos hm, if_pos hm]
    by_cases hd : rd = 3
    · rw [if_pos hd]; exact recPut_v rk rp rl rn rd rf rx rb w hk hm hd h0
    · rw [if_neg hd]; exact recPut_m rk rp rl rn rd rf rx rb w hk hm hd h0
  · rw [if_neg hm, if_neg hm]
    exact recPut_no rk rp rl rn rd rf rx rb w hk (by simpa using hm)
end Go.Proofs.Ytdjompbhlkgmbaa.Rec
end

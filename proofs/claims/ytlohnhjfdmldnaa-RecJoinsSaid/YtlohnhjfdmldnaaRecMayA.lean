/- Which records may be, which are live, and the reference's order: the walks (own text; printed by wip/tools/gen_recref.py, a program of this session). -/
import Derived.Test.YtlohnhjfdmldnaaRecMayD
namespace Go.Proofs.Ytlohnhjfdmldnaa.Rec
open Go.RowKit Go.Proofs.Ytlohnhjfdmldnaa.Mem Go.Proofs.Ytlohnhjfdmldnaa.Hlc Go.Proofs.Ytlohnhjfdmldnaa
set_option linter.unusedVariables false
set_option linter.unusedSimpArgs false
theorem may_any_0 (rk : ByteArray) (rp rl rn rd rf rx : Int) (rb : ByteArray) (w : World) (hz : rk.size ≤ 1000000) (h0 : keyMay rk = false) :
    Calls Try.prog 19 #[.agg #[.string rk, .int .u64 rp, .int .u32 rl, .int .u8 rn, .int .u8 rd, .int .u32 rf, .int .u64 rx, .string rb]] w fun e w' => e = .returned (.bool (false)) ∧ Below w.heap.size w w' := by
  have c0 : keyMay rk = false := h0
  clear h0
  have HK := Lib.hid (fun w => key_any rk w hz)
  rw [c0] at HK
  go_enter Try.func19, Try.ntmps19
  go_wp2_with (fail)
  refine (HK.out _).mono ?_
  rintro e w1 ⟨rfl, b1⟩
  obtain ⟨x0, x1, x2, x3, x4, x5, x6, x7, -⟩ := at8 (at_below (at_new w #[.string rk, .int .u64 rp, .int .u32 rl, .int .u8 rn, .int .u8 rd, .int .u32 rf, .int .u64 rx, .string rb] 27) b1)
  go_wp2_with (fail)
  go_ret
  exact ⟨rfl, below_on (below_al (Below.refl _ _)) b1⟩
theorem may_any_1 (rk : ByteArray) (rp rl rn rd rf rx : Int) (rb : ByteArray) (w : World) (hz : rk.size ≤ 1000000) (h0 : ¬ (keyMay rk = false)) (h1 : 281474976710655 < rp) :
    Calls Try.prog 19 #[.agg #[.string rk, .int .u64 rp, .int .u32 rl, .int .u8 rn, .int .u8 rd, .int .u32 rf, .int .u64 rx, .string rb]] w fun e w' => e = .returned (.bool (false)) ∧ Below w.heap.size w w' := by
  have c0 : keyMay rk = true := by simpa using h0
  have c1 : decide (281474976710655 < rp) = true := decide_eq_true (by omega)
  clear h0 h1
  have HK := Lib.hid (fun w => key_any rk w hz)
  rw [c0] at HK
  go_enter Try.func19, Try.ntmps19
  go_wp2_with (fail)
  refine (HK.out _).mono ?_
  rintro e w1 ⟨rfl, b1⟩
  obtain ⟨x0, x1, x2, x3, x4, x5, x6, x7, -⟩ := at8 (at_below (at_new w #[.string rk, .int .u64 rp, .int .u32 rl, .int .u8 rn, .int .u8 rd, .int .u32 rf, .int .u64 rx, .string rb] 27) b1)
  go_wp2_with (fail)
  go_ret
  exact ⟨rfl, below_on (below_al (Below.refl _ _)) b1⟩
theorem may_any_2 (rk : ByteArray) (rp rl rn rd rf rx : Int) (rb : ByteArray) (w : World) (hz : rk.size ≤ 1000000) (h0 : ¬ (keyMay rk = false)) (h1 : ¬ (281474976710655 < rp)) (h2 : 63 < rn) :
    Calls Try.prog 19 #[.agg #[.string rk, .int .u64 rp, .int .u32 rl, .int .u8 rn, .int .u8 rd, .int .u32 rf, .int .u64 rx, .string rb]] w fun e w' => e = .returned (.bool (false)) ∧ Below w.heap.size w w' := by
  have c0 : keyMay rk = true := by simpa using h0
  have c1 : decide (281474976710655 < rp) = false := decide_eq_false (by omega)
  have c2 : decide (63 < rn) = true := decide_eq_true (by omega)
  have c3 : decide (64 ≤ rn) = true := decide_eq_true (by omega)
  clear h0 h1 h2
  have HK := Lib.hid (fun w => key_any rk w hz)
  rw [c0] at HK
  go_enter Try.func19, Try.ntmps19
  go_wp2_with (fail)
  refine (HK.out _).mono ?_
  rintro e w1 ⟨rfl, b1⟩
  obtain ⟨x0, x1, x2, x3, x4, x5, x6, x7, -⟩ := at8 (at_below (at_new w #[.string rk, .int .u64 rp, .int .u32 rl, .int .u8 rn, .int .u8 rd, .int .u32 rf, .int .u64 rx, .string rb] 27) b1)
  go_wp2_with (fail)
  go_ret
  exact ⟨rfl, below_on (below_al (Below.refl _ _)) b1⟩
theorem may_any_3 (rk : ByteArray) (rp rl rn rd rf rx : Int) (rb : ByteArray) (w : World) (hz : rk.size ≤ 1000000) (h0 : ¬ (keyMay rk = false)) (h1 : ¬ (281474976710655 < rp)) (h2 : ¬ (63 < rn)) (h3 : 281474976710655 < rx) :
    Calls Try.prog 19 #[.agg #[.string rk, .int .u64 rp, .int .u32 rl, .int .u8 rn, .int .u8 rd, .int .u32 rf, .int .u64 rx, .string rb]] w fun e w' => e = .returned (.bool (false)) ∧ Below w.heap.size w w' := by
  have c0 : keyMay rk = true := by simpa using h0
  have c1 : decide (281474976710655 < rp) = false := decide_eq_false (by omega)
  have c2 : decide (63 < rn) = false := decide_eq_false (by omega)
  have c3 : decide (64 ≤ rn) = false := decide_eq_false (by omega)
  have c4 : decide (281474976710655 < rx) = true := decide_eq_true (by omega)
  clear h0 h1 h2 h3
  have HK := Lib.hid (fun w => key_any rk w hz)
  rw [c0] at HK
  go_enter Try.func19, Try.ntmps19
  go_wp2_with (fail)
  refine (HK.out _).mono ?_
  rintro e w1 ⟨rfl, b1⟩
  obtain ⟨x0, x1, x2, x3, x4, x5, x6, x7, -⟩ := at8 (at_below (at_new w #[.string rk, .int .u64 rp, .int .u32 rl, .int .u8 rn, .int .u8 rd, .int .u32 rf, .int .u64 rx, .string rb] 27) b1)
  go_wp2_with (fail)
  go_ret
  exact ⟨rfl, below_on (below_al (Below.refl _ _)) b1⟩
theorem may_any_4 (rk : ByteArray) (rp rl rn rd rf rx : Int) (rb : ByteArray) (w : World) (hz : rk.size ≤ 1000000) (h0 : ¬ (keyMay rk = false)) (h1 : ¬ (281474976710655 < rp)) (h2 : ¬ (63 < rn)) (h3 : ¬ (281474976710655 < rx)) (h4 : 1024 < rb.size) :
    Calls Try.prog 19 #[.agg #[.string rk, .int .u64 rp, .int .u32 rl, .int .u8 rn, .int .u8 rd, .int .u32 rf, .int .u64 rx, .string rb]] w fun e w' => e = .returned (.bool (false)) ∧ Below w.heap.size w w' := by
  have c0 : keyMay rk = true := by simpa using h0
  have c1 : decide (281474976710655 < rp) = false := decide_eq_false (by omega)
  have c2 : decide (63 < rn) = false := decide_eq_false (by omega)
  have c3 : decide (64 ≤ rn) = false := decide_eq_false (by omega)
  have c4 : decide (281474976710655 < rx) = false := decide_eq_false (by omega)
  have c5 : decide (1024 < (rb.size : Int)) = true := decide_eq_true (by omega)
  clear h0 h1 h2 h3 h4
  have HK := Lib.hid (fun w => key_any rk w hz)
  rw [c0] at HK
  go_enter Try.func19, Try.ntmps19
  go_wp2_with (fail)
  refine (HK.out _).mono ?_
  rintro e w1 ⟨rfl, b1⟩
  obtain ⟨x0, x1, x2, x3, x4, x5, x6, x7, -⟩ := at8 (at_below (at_new w #[.string rk, .int .u64 rp, .int .u32 rl, .int .u8 rn, .int .u8 rd, .int .u32 rf, .int .u64 rx, .string rb] 27) b1)
  go_wp2_with (fail)
  go_ret
  exact ⟨rfl, below_on (below_al (Below.refl _ _)) b1⟩
theorem may_any_5 (rk : ByteArray) (rp rl rn rd rf rx : Int) (rb : ByteArray) (w : World) (hz : rk.size ≤ 1000000) (h0 : ¬ (keyMay rk = false)) (h1 : ¬ (281474976710655 < rp)) (h2 : ¬ (63 < rn)) (h3 : ¬ (281474976710655 < rx)) (h4 : ¬ (1024 < rb.size)) (h5 : rd = 3) :
    Calls Try.prog 19 #[.agg #[.string rk, .int .u64 rp, .int .u32 rl, .int .u8 rn, .int .u8 rd, .int .u32 rf, .int .u64 rx, .string rb]] w fun e w' => e = .returned (.bool (true)) ∧ Below w.heap.size w w' := by
  have c0 : keyMay rk = true := by simpa using h0
  have c1 : decide (281474976710655 < rp) = false := decide_eq_false (by omega)
  have c2 : decide (63 < rn) = false := decide_eq_false (by omega)
  have c3 : decide (64 ≤ rn) = false := decide_eq_false (by omega)
  have c4 : decide (281474976710655 < rx) = false := decide_eq_false (by omega)
  have c5 : decide (1024 < (rb.size : Int)) = false := decide_eq_false (by omega)
  have c6 : (rd == 3) = true := beq_iff_eq.2 h5
  clear h0 h1 h2 h3 h4 h5
  have HK := Lib.hid (fun w => key_any rk w hz)
  rw [c0] at HK
  go_enter Try.func19, Try.ntmps19
  go_wp2_with (fail)
  refine (HK.out _).mono ?_
  rintro e w1 ⟨rfl, b1⟩
  obtain ⟨x0, x1, x2, x3, x4, x5, x6, x7, -⟩ := at8 (at_below (at_new w #[.string rk, .int .u64 rp, .int .u32 rl, .int .u8 rn, .int .u8 rd, .int .u32 rf, .int .u64 rx, .string rb] 27) b1)
  go_wp2_with (fail)
  go_ret
  exact ⟨rfl, below_on (below_al (Below.refl _ _)) b1⟩
theorem may_any_6 (rk : ByteArray) (rp rl rn rd rf rx : Int) (rb : ByteArray) (w : World) (hz : rk.size ≤ 1000000) (h0 : ¬ (keyMay rk = false)) (h1 : ¬ (281474976710655 < rp)) (h2 : ¬ (63 < rn)) (h3 : ¬ (281474976710655 < rx)) (h4 : ¬ (1024 < rb.size)) (h5 : ¬ (rd = 3)) (h6 : rd = 1) (h7 : rf = 0) (h8 : rx = 0) (h9 : rb.size = 0) :
    Calls Try.prog 19 #[.agg #[.string rk, .int .u64 rp, .int .u32 rl, .int .u8 rn, .int .u8 rd, .int .u32 rf, .int .u64 rx, .string rb]] w fun e w' => e = .returned (.bool (true)) ∧ Below w.heap.size w w' := by
  have c0 : keyMay rk = true := by simpa using h0
  have c1 : decide (281474976710655 < rp) = false := decide_eq_false (by omega)
  have c2 : decide (63 < rn) = false := decide_eq_false (by omega)
  have c3 : decide (64 ≤ rn) = false := decide_eq_false (by omega)
  have c4 : decide (281474976710655 < rx) = false := decide_eq_false (by omega)
  have c5 : decide (1024 < (rb.size : Int)) = false := decide_eq_false (by omega)
  have c6 : (rd == 3) = false := beq_eq_false_iff_ne.2 h5
  have c7 : (rd == 1) = true := beq_iff_eq.2 h6
  have c8 : (rf == 0) = true := beq_iff_eq.2 h7
  have c9 : (rx == 0) = true := beq_iff_eq.2 h8
  have c10 : rb.toList.isEmpty = true := empty_of h9
  clear h0 h1 h2 h3 h4 h5 h6 h7 h8 h9
  have HK := Lib.hid (fun w => key_any rk w hz)
  rw [c0] at HK
  go_enter Try.func19, Try.ntmps19
  go_wp2_with (fail)
  refine (HK.out _).mono ?_
  rintro e w1 ⟨rfl, b1⟩
  obtain ⟨x0, x1, x2, x3, x4, x5, x6, x7, -⟩ := at8 (at_below (at_new w #[.string rk, .int .u64 rp, .int .u32 rl, .int .u8 rn, .int .u8 rd, .int .u32 rf, .int .u64 rx, .string rb] 27) b1)
  go_wp2_with (fail)
  go_ret
  exact ⟨rfl, below_on (below_al (Below.refl _ _)) b1⟩
theorem may_any_7 (rk : ByteArray) (rp rl rn rd rf rx : Int) (rb : ByteArray) (w : World) (hz : rk.size ≤ 1000000) (h0 : ¬ (keyMay rk = false)) (h1 : ¬ (281474976710655 < rp)) (h2 : ¬ (63 < rn)) (h3 : ¬ (281474976710655 < rx)) (h4 : ¬ (1024 < rb.size)) (h5 : ¬ (rd = 3)) (h6 : rd = 1) (h7 : rf = 0) (h8 : rx = 0) (h9 : ¬ (rb.size = 0)) :
    Calls Try.prog 19 #[.agg #[.string rk, .int .u64 rp, .int .u32 rl, .int .u8 rn, .int .u8 rd, .int .u32 rf, .int .u64 rx, .string rb]] w fun e w' => e = .returned (.bool (false)) ∧ Below w.heap.size w w' := by
  have c0 : keyMay rk = true := by simpa using h0
  have c1 : decide (281474976710655 < rp) = false := decide_eq_false (by omega)
  have c2 : decide (63 < rn) = false := decide_eq_false (by omega)
  have c3 : decide (64 ≤ rn) = false := decide_eq_false (by omega)
  have c4 : decide (281474976710655 < rx) = false := decide_eq_false (by omega)
  have c5 : decide (1024 < (rb.size : Int)) = false := decide_eq_false (by omega)
  have c6 : (rd == 3) = false := beq_eq_false_iff_ne.2 h5
  have c7 : (rd == 1) = true := beq_iff_eq.2 h6
  have c8 : (rf == 0) = true := beq_iff_eq.2 h7
  have c9 : (rx == 0) = true := beq_iff_eq.2 h8
  have c10 : rb.toList.isEmpty = false := full_of h9
  clear h0 h1 h2 h3 h4 h5 h6 h7 h8 h9
  have HK := Lib.hid (fun w => key_any rk w hz)
  rw [c0] at HK
  go_enter Try.func19, Try.ntmps19
  go_wp2_with (fail)
  refine (HK.out _).mono ?_
  rintro e w1 ⟨rfl, b1⟩
  obtain ⟨x0, x1, x2, x3, x4, x5, x6, x7, -⟩ := at8 (at_below (at_new w #[.string rk, .int .u64 rp, .int .u32 rl, .int .u8 rn, .int .u8 rd, .int .u32 rf, .int .u64 rx, .string rb] 27) b1)
  go_wp2_with (fail)
  go_ret
  exact ⟨rfl, below_on (below_al (Below.refl _ _)) b1⟩
theorem may_any_8 (rk : ByteArray) (rp rl rn rd rf rx : Int) (rb : ByteArray) (w : World) (hz : rk.size ≤ 1000000) (h0 : ¬ (keyMay rk = false)) (h1 : ¬ (281474976710655 < rp)) (h2 : ¬ (63 < rn)) (h3 : ¬ (281474976710655 < rx)) (h4 : ¬ (1024 < rb.size)) (h5 : ¬ (rd = 3)) (h6 : rd = 1) (h7 : rf = 0) (h8 : ¬ (rx = 0)) :
    Calls Try.prog 19 #[.agg #[.string rk, .int .u64 rp, .int .u32 rl, .int .u8 rn, .int .u8 rd, .int .u32 rf, .int .u64 rx, .string rb]] w fun e w' => e = .returned (.bool (false)) ∧ Below w.heap.size w w' := by
  have c0 : keyMay rk = true := by simpa using h0
  have c1 : decide (281474976710655 < rp) = false := decide_eq_false (by omega)
  have c2 : decide (63 < rn) = false := decide_eq_false (by omega)
  have c3 : decide (64 ≤ rn) = false := decide_eq_false (by omega)
  have c4 : decide (281474976710655 < rx) = false := decide_eq_false (by omega)
  have c5 : decide (1024 < (rb.size : Int)) = false := decide_eq_false (by omega)
  have c6 : (rd == 3) = false := beq_eq_false_iff_ne.2 h5
  have c7 : (rd == 1) = true := beq_iff_eq.2 h6
  have c8 : (rf == 0) = true := beq_iff_eq.2 h7
  have c9 : (rx == 0) = false := beq_eq_false_iff_ne.2 h8
  clear h0 h1 h2 h3 h4 h5 h6 h7 h8
  have HK := Lib.hid (fun w => key_any rk w hz)
  rw [c0] at HK
  go_enter Try.func19, Try.ntmps19
  go_wp2_with (fail)
  refine (HK.out _).mono ?_
  rintro e w1 ⟨rfl, b1⟩
  obtain ⟨x0, x1, x2, x3, x4, x5, x6, x7, -⟩ := at8 (at_below (at_new w #[.string rk, .int .u64 rp, .int .u32 rl, .int .u8 rn, .int .u8 rd, .int .u32 rf, .int .u64 rx, .string rb] 27) b1)
  go_wp2_with (fail)
  go_ret
  exact ⟨rfl, below_on (below_al (Below.refl _ _)) b1⟩
theorem may_any_9 (rk : ByteArray) (rp rl rn rd rf rx : Int) (rb : ByteArray) (w : World) (hz : rk.size ≤ 1000000) (h0 : ¬ (keyMay rk = false)) (h1 : ¬ (281474976710655 < rp)) (h2 : ¬ (63 < rn)) (h3 : ¬ (281474976710655 < rx)) (h4 : ¬ (1024 < rb.size)) (h5 : ¬ (rd = 3)) (h6 : rd = 1) (h7 : ¬ (rf = 0)) :
    Calls Try.prog 19 #[.agg #[.string rk, .int .u64 rp, .int .u32 rl, .int .u8 rn, .int .u8 rd, .int .u32 rf, .int .u64 rx, .string rb]] w fun e w' => e = .returned (.bool (false)) ∧ Below w.heap.size w w' := by
  have c0 : keyMay rk = true := by simpa using h0
  have c1 : decide (281474976710655 < rp) = false := decide_eq_false (by omega)
  have c2 : decide (63 < rn) = false := decide_eq_false (by omega)
  have c3 : decide (64 ≤ rn) = false := decide_eq_false (by omega)
  have c4 : decide (281474976710655 < rx) = false := decide_eq_false (by omega)
  have c5 : decide (1024 < (rb.size : Int)) = false := decide_eq_false (by omega)
  have c6 : (rd == 3) = false := beq_eq_false_iff_ne.2 h5
  have c7 : (rd == 1) = true := beq_iff_eq.2 h6
  have c8 : (rf == 0) = false := beq_eq_false_iff_ne.2 h7
  clear h0 h1 h2 h3 h4 h5 h6 h7
  have HK := Lib.hid (fun w => key_any rk w hz)
  rw [c0] at HK
  go_enter Try.func19, Try.ntmps19
  go_wp2_with (fail)
  refine (HK.out _).mono ?_
  rintro e w1 ⟨rfl, b1⟩
  obtain ⟨x0, x1, x2, x3, x4, x5, x6, x7, -⟩ := at8 (at_below (at_new w #[.string rk, .int .u64 rp, .int .u32 rl, .int .u8 rn, .int .u8 rd, .int .u32 rf, .int .u64 rx, .string rb] 27) b1)
  go_wp2_with (fail)
  go_ret
  exact ⟨rfl, below_on (below_al (Below.refl _ _)) b1⟩
theorem may_any_10 (rk : ByteArray) (rp rl rn rd rf rx : Int) (rb : ByteArray) (w : World) (hz : rk.size ≤ 1000000) (h0 : ¬ (keyMay rk = false)) (h1 : ¬ (281474976710655 < rp)) (h2 : ¬ (63 < rn)) (h3 : ¬ (281474976710655 < rx)) (h4 : ¬ (1024 < rb.size)) (h5 : ¬ (rd = 3)) (h6 : ¬ (rd = 1)) (h7 : rd = 2) (h8 : rf = 0) (h9 : rx = 0) (h10 : rb.size = 0) :
    Calls Try.prog 19 #[.agg #[.string rk, .int .u64 rp, .int .u32 rl, .int .u8 rn, .int .u8 rd, .int .u32 rf, .int .u64 rx, .string rb]] w fun e w' => e = .returned (.bool (true)) ∧ Below w.heap.size w w' := by
  have c0 : keyMay rk = true := by simpa using h0
  have c1 : decide (281474976710655 < rp) = false := decide_eq_false (by omega)
  have c2 : decide (63 < rn) = false := decide_eq_false (by omega)
  have c3 : decide (64 ≤ rn) = false := decide_eq_false (by omega)
  have c4 : decide (281474976710655 < rx) = false := decide_eq_false (by omega)
  have c5 : decide (1024 < (rb.size : Int)) = false := decide_eq_false (by omega)
  have c6 : (rd == 3) = false := beq_eq_false_iff_ne.2 h5
  have c7 : (rd == 1) = false := beq_eq_false_iff_ne.2 h6
  have c8 : (rd == 2) = true := beq_iff_eq.2 h7
  have c9 : (rf == 0) = true := beq_iff_eq.2 h8
  have c10 : (rx == 0) = true := beq_iff_eq.2 h9
  have c11 : rb.toList.isEmpty = true := empty_of h10
  clear h0 h1 h2 h3 h4 h5 h6 h7 h8 h9 h10
  have HK := Lib.hid (fun w => key_any rk w hz)
  rw [c0] at HK
  go_enter Try.func19, Try.ntmps19
  go_wp2_with (fail)
  refine (HK.out _).mono ?_
  rintro e w1 ⟨rfl, b1⟩
  obtain ⟨x0, x1, x2, x3, x4, x5, x6, x7, -⟩ := at8 (at_below (at_new w #[.string rk, .int .u64 rp, .int .u32 rl, .int .u8 rn, .int .u8 rd, .int .u32 rf, .int .u64 rx, .string rb] 27) b1)
  go_wp2_with (fail)
  go_ret
  exact ⟨rfl, below_on (below_al (Below.refl _ _)) b1⟩
theorem may_any_11 (rk : ByteArray) (rp rl rn rd rf rx : Int) (rb : ByteArray) (w : World) (hz : rk.size ≤ 1000000) (h0 : ¬ (keyMay rk = false)) (h1 : ¬ (281474976710655 < rp)) (h2 : ¬ (63 < rn)) (h3 : ¬ (281474976710655 < rx)) (h4 : ¬ (1024 < rb.size)) (h5 : ¬ (rd = 3)) (h6 : ¬ (rd = 1)) (h7 : rd = 2) (h8 : rf = 0) (h9 : rx = 0) (h10 : ¬ (rb.size = 0)) :
    Calls Try.prog 19 #[.agg #[.string rk, .int .u64 rp, .int .u32 rl, .int .u8 rn, .int .u8 rd, .int .u32 rf, .int .u64 rx, .string rb]] w fun e w' => e = .returned (.bool (false)) ∧ Below w.heap.size w w' := by
  have c0 : keyMay rk = true := by simpa using h0
  have c1 : decide (281474976710655 < rp) = false := decide_eq_false (by omega)
  have c2 : decide (63 < rn) = false := decide_eq_false (by omega)
  have c3 : decide (64 ≤ rn) = false := decide_eq_false (by omega)
  have c4 : decide (281474976710655 < rx) = false := decide_eq_false (by omega)
  have c5 : decide (1024 < (rb.size : Int)) = false := decide_eq_false (by omega)
  have c6 : (rd == 3) = false := beq_eq_false_iff_ne.2 h5
  have c7 : (rd == 1) = false := beq_eq_false_iff_ne.2 h6
  have c8 : (rd == 2) = true := beq_iff_eq.2 h7
  have c9 : (rf == 0) = true := beq_iff_eq.2 h8
  have c10 : (rx == 0) = true := beq_iff_eq.2 h9
  have c11 : rb.toList.isEmpty = false := full_of h10
  clear h0 h1 h2 h3 h4 h5 h6 h7 h8 h9 h10
  have HK := Lib.hid (fun w => key_any rk w hz)
  rw [c0] at HK
  go_enter Try.func19, Try.ntmps19
  go_wp2_with (fail)
  refine (HK.out _).mono ?_
  rintro e w1 ⟨rfl, b1⟩
  obtain ⟨x0, x1, x2, x3, x4, x5, x6, x7, -⟩ := at8 (at_below (at_new w #[.string rk, .int .u64 rp, .int .u32 rl, .int .u8 rn, .int .u8 rd, .int .u32 rf, .int .u64 rx, .string rb] 27) b1)
  go_wp2_with (fail)
  go_ret
  exact ⟨rfl, below_on (below_al (Below.refl _ _)) b1⟩
theorem may_any_12 (rk : ByteArray) (rp rl rn rd rf rx : Int) (rb : ByteArray) (w : World) (hz : rk.size ≤ 1000000) (h0 : ¬ (keyMay rk = false)) (h1 : ¬ (281474976710655 < rp)) (h2 : ¬ (63 < rn)) (h3 : ¬ (281474976710655 < rx)) (h4 : ¬ (1024 < rb.size)) (h5 : ¬ (rd = 3)) (h6 : ¬ (rd = 1)) (h7 : rd = 2) (h8 : rf = 0) (h9 : ¬ (rx = 0)) :
    Calls Try.prog 19 #[.agg #[.string rk, .int .u64 rp, .int .u32 rl, .int .u8 rn, .int .u8 rd, .int .u32 rf, .int .u64 rx, .string rb]] w fun e w' => e = .returned (.bool (false)) ∧ Below w.heap.size w w' := by
  have c0 : keyMay rk = true := by simpa using h0
  have c1 : decide (281474976710655 < rp) = false := decide_eq_false (by omega)
  have c2 : decide (63 < rn) = false := decide_eq_false (by omega)
  have c3 : decide (64 ≤ rn) = false := decide_eq_false (by omega)
  have c4 : decide (281474976710655 < rx) = false := decide_eq_false (by omega)
  have c5 : decide (1024 < (rb.size : Int)) = false := decide_eq_false (by omega)
  have c6 : (rd == 3) = false := beq_eq_false_iff_ne.2 h5
  have c7 : (rd == 1) = false := beq_eq_false_iff_ne.2 h6
  have c8 : (rd == 2) = true := beq_iff_eq.2 h7
  have c9 : (rf == 0) = true := beq_iff_eq.2 h8
  have c10 : (rx == 0) = false := beq_eq_false_iff_ne.2 h9
  clear h0 h1 h2 h3 h4 h5 h6 h7 h8 h9
  have HK := Lib.hid (fun w => key_any rk w hz)
  rw [c0] at HK
  go_enter Try.func19, Try.ntmps19
  go_wp2_with (fail)
  refine (HK.out _).mono ?_
  rintro e w1 ⟨rfl, b1⟩
  obtain ⟨x0, x1, x2, x3, x4, x5, x6, x7, -⟩ := at8 (at_below (at_new w #[.string rk, .int .u64 rp, .int .u32 rl, .int .u8 rn, .int .u8 rd, .int .u32 rf, .int .u64 rx, .string rb] 27) b1)
  go_wp2_with (fail)
  go_ret
  exact ⟨rfl, below_on (below_al (Below.refl _ _)) b1⟩
theorem may_any_13 (rk : ByteArray) (rp rl rn rd rf rx : Int) (rb : ByteArray) (w : World) (hz : rk.size ≤ 1000000) (h0 : ¬ (keyMay rk = false)) (h1 : ¬ (281474976710655 < rp)) (h2 : ¬ (63 < rn)) (h3 : ¬ (281474976710655 < rx)) (h4 : ¬ (1024 < rb.size)) (h5 : ¬ (rd = 3)) (h6 : ¬ (rd = 1)) (h7 : rd = 2) (h8 : ¬ (rf = 0)) :
    Calls Try.prog 19 #[.agg #[.string rk, .int .u64 rp, .int .u32 rl, .int .u8 rn, .int .u8 rd, .int .u32 rf, .int .u64 rx, .string rb]] w fun e w' => e = .returned (.bool (false)) ∧ Below w.heap.size w w' := by
  have c0 : keyMay rk = true := by simpa using h0
  have c1 : decide (281474976710655 < rp) = false := decide_eq_false (by omega)
  have c2 : decide (63 < rn) = false := decide_eq_false (by omega)
  have c3 : decide (64 ≤ rn) = false := decide_eq_false (by omega)
  have c4 : decide (281474976710655 < rx) = false := decide_eq_false (by omega)
  have c5 : decide (1024 < (rb.size : Int)) = false := decide_eq_false (by omega)
  have c6 : (rd == 3) = false := beq_eq_false_iff_ne.2 h5
  have c7 : (rd == 1) = false := beq_eq_false_iff_ne.2 h6
  have c8 : (rd == 2) = true := beq_iff_eq.2 h7
  have c9 : (rf == 0) = false := beq_eq_false_iff_ne.2 h8
  clear h0 h1 h2 h3 h4 h5 h6 h7 h8
  have HK := Lib.hid (fun w => key_any rk w hz)
  rw [c0] at HK
  go_enter Try.func19, Try.ntmps19
  go_wp2_with (fail)
  refine (HK.out _).mono ?_
  rintro e w1 ⟨rfl, b1⟩
  obtain ⟨x0, x1, x2, x3, x4, x5, x6, x7, -⟩ := at8 (at_below (at_new w #[.string rk, .int .u64 rp, .int .u32 rl, .int .u8 rn, .int .u8 rd, .int .u32 rf, .int .u64 rx, .string rb] 27) b1)
  go_wp2_with (fail)
  go_ret
  exact ⟨rfl, below_on (below_al (Below.refl _ _)) b1⟩
theorem may_any_14 (rk : ByteArray) (rp rl rn rd rf rx : Int) (rb : ByteArray) (w : World) (hz : rk.size ≤ 1000000) (h0 : ¬ (keyMay rk = false)) (h1 : ¬ (281474976710655 < rp)) (h2 : ¬ (63 < rn)) (h3 : ¬ (281474976710655 < rx)) (h4 : ¬ (1024 < rb.size)) (h5 : ¬ (rd = 3)) (h6 : ¬ (rd = 1)) (h7 : ¬ (rd = 2)) :
    Calls Try.prog 19 #[.agg #[.string rk, .int .u64 rp, .int .u32 rl, .int .u8 rn, .int .u8 rd, .int .u32 rf, .int .u64 rx, .string rb]] w fun e w' => e = .returned (.bool (false)) ∧ Below w.heap.size w w' := by
  have c0 : keyMay rk = true := by simpa using h0
  have c1 : decide (281474976710655 < rp) = false := decide_eq_false (by omega)
  have c2 : decide (63 < rn) = false := decide_eq_false (by omega)
  have c3 : decide (64 ≤ rn) = false := decide_eq_false (by omega)
  have c4 : decide (281474976710655 < rx) = false := decide_eq_false (by omega)
  have c5 : decide (1024 < (rb.size : Int)) = false := decide_eq_false (by omega)
  have c6 : (rd == 3) = false := beq_eq_false_iff_ne.2 h5
  have c7 : (rd == 1) = false := beq_eq_false_iff_ne.2 h6
  have c8 : (rd == 2) = false := beq_eq_false_iff_ne.2 h7
  clear h0 h1 h2 h3 h4 h5 h6 h7
  have HK := Lib.hid (fun w => key_any rk w hz)
  rw [c0] at HK
  go_enter Try.func19, Try.ntmps19
  go_wp2_with (fail)
  refine (HK.out _).mono ?_
  rintro e w1 ⟨rfl, b1⟩
  obtain ⟨x0, x1, x2, x3, x4, x5, x6, x7, -⟩ := at8 (at_below (at_new w #[.string rk, .int .u64 rp, .int .u32 rl, .int .u8 rn, .int .u8 rd, .int .u32 rf, .int .u64 rx, .string rb] 27) b1)
  go_wp2_with (fail)
  go_ret
  exact ⟨rfl, below_on (below_al (Below.refl _ _)) b1⟩
theorem may_any (rk : ByteArray) (rp rl rn rd rf rx : Int) (rb : ByteArray) (w : World) (hz : rk.size ≤ 1000000) :
    Calls Try.prog 19 #[.agg #[.string rk, .int .u64 rp, .int .u32 rl, .int .u8 rn, .int .u8 rd, .int .u32 rf, .int .u64 rx, .string rb]] w fun e w' => e = .returned (.bool (mayR rk rp rn rd rf rx rb)) ∧ Below w.heap.size w w' := by
  unfold mayR
  by_cases h0 : keyMay rk = false
  · rw [if_pos h0]
    exact may_any_0 rk rp rl rn rd rf rx rb w hz h0
  · by_cases h1 : 281474976710655 < rp
    · rw [if_neg h0, if_pos h1]
      exact may_any_1 rk rp rl rn rd rf rx rb w hz h0 h1
    · by_cases h2 : 63 < rn
      · rw [if_neg h0, if_neg h1, if_pos h2]
        exact may_any_2 rk rp rl rn rd rf rx rb w hz h0 h1 h2
      · by_cases h3 : 281474976710655 < rx
        · rw [if_neg h0, if_neg h1, if_neg h2, if_pos h3]
          exact may_any_3 rk rp rl rn rd rf rx rb w hz h0 h1 h2 h3
        · by_cases h4 : 1024 < rb.size
          · rw [if_neg h0, if_neg h1, if_neg h2, if_neg h3, if_pos h4]
            exact may_any_4 rk rp rl rn rd rf rx rb w hz h0 h1 h2 h3 h4
          · by_cases h5 : rd = 3
            · rw [if_neg h0, if_neg h1, if_neg h2, if_neg h3, if_neg h4, if_pos h5]
              exact may_any_5 rk rp rl rn rd rf rx rb w hz h0 h1 h2 h3 h4 h5
            · by_cases h6 : rd = 1
              · by_cases h7 : rf = 0
                · by_cases h8 : rx = 0
                  · by_cases h9 : rb.size = 0
                    · rw [if_neg h0, if_neg h1, if_neg h2, if_neg h3, if_neg h4, if_neg h5, if_pos h6, if_pos h7, if_pos h8, if_pos h9]
                      exact may_any_6 rk rp rl rn rd rf rx rb w hz h0 h1 h2 h3 h4 h5 h6 h7 h8 h9
                    · rw [if_neg h0, if_neg h1, if_neg h2, if_neg h3, if_neg h4, if_neg h5, if_pos h6, if_pos h7, if_pos h8, if_neg h9]
                      exact may_any_7 rk rp rl rn rd rf rx rb w hz h0 h1 h2 h3 h4 h5 h6 h7 h8 h9
                  · rw [if_neg h0, if_neg h1, if_neg h2, if_neg h3, if_neg h4, if_neg h5, if_pos h6, if_pos h7, if_neg h8]
                    exact may_any_8 rk rp rl rn rd rf rx rb w hz h0 h1 h2 h3 h4 h5 h6 h7 h8
                · rw [if_neg h0, if_neg h1, if_neg h2, if_neg h3, if_neg h4, if_neg h5, if_pos h6, if_neg h7]
                  exact may_any_9 rk rp rl rn rd rf rx rb w hz h0 h1 h2 h3 h4 h5 h6 h7
              · by_cases h7 : rd = 2
                · by_cases h8 : rf = 0
                  · by_cases h9 : rx = 0
                    · by_cases h10 : rb.size = 0
                      · rw [if_neg h0, if_neg h1, if_neg h2, if_neg h3, if_neg h4, if_neg h5, if_neg h6, if_pos h7, if_pos h8, if_pos h9, if_pos h10]
                        exact may_any_10 rk rp rl rn rd rf rx rb w hz h0 h1 h2 h3 h4 h5 h6 h7 h8 h9 h10
                      · rw [if_neg h0, if_neg h1, if_neg h2, if_neg h3, if_neg h4, if_neg h5, if_neg h6, if_pos h7, if_pos h8, if_pos h9, if_neg h10]
                        exact may_any_11 rk rp rl rn rd rf rx rb w hz h0 h1 h2 h3 h4 h5 h6 h7 h8 h9 h10
                    · rw [if_neg h0, if_neg h1, if_neg h2, if_neg h3, if_neg h4, if_neg h5, if_neg h6, if_pos h7, if_pos h8, if_neg h9]
                      exact may_any_12 rk rp rl rn rd rf rx rb w hz h0 h1 h2 h3 h4 h5 h6 h7 h8 h9
                  · rw [if_neg h0, if_neg h1, if_neg h2, if_neg h3, if_neg h4, if_neg h5, if_neg h6, if_pos h7, if_neg h8]
                    exact may_any_13 rk rp rl rn rd rf rx rb w hz h0 h1 h2 h3 h4 h5 h6 h7 h8
                · rw [if_neg h0, if_neg h1, if_neg h2, if_neg h3, if_neg h4, if_neg h5, if_neg h6, if_neg h7]
                  exact may_any_14 rk rp rl rn rd rf rx rb w hz h0 h1 h2 h3 h4 h5 h6 h7
end Go.Proofs.Ytlohnhjfdmldnaa.Rec

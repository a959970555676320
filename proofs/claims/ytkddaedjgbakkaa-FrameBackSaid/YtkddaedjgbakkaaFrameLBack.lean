/- FrameBack answers true: the walk (own text; printed by wip/tools/gen_framelaws.py, a program of this session). -/
import Derived.Test.YtkddaedjgbakkaaFrameFix
namespace Go.Proofs.Ytkddaedjgbakkaa.Frame
open Go.Proofs.Ytkddaedjgbakkaa Go.RowKit Go.Proofs.Ytkddaedjgbakkaa.Mem Go.Proofs.Ytkddaedjgbakkaa.Sum
set_option linter.unusedVariables false
set_option linter.unusedSimpArgs false
theorem back_great1 (k f t : Nat) (b s : ByteArray) (w : World) (h : 5000 < b.size) : Calls Try.prog 5 #[.agg #[.int .u8 (k : Int), .int .u8 (f : Int), .int .u8 (t : Int), .string b], .string s] w fun e w' => e = .returned (.bool true) ∧ Below w.heap.size w w' := by
  have c1 : decide ((5000 : Int) < (b.size : Int)) = true := decide_eq_true (by omega)
  go_enter Try.func5, Try.ntmps5
  go_wp2_with (fail)
  refine (fixed_any _).mono ?_
  rintro e w9 ⟨rfl, b9⟩
  go_wp2_with (fail)
  go_ret
  exact ⟨rfl, below_on (below_al (Below.refl _ _)) b9⟩
theorem back_great2 (k f t : Nat) (b s : ByteArray) (w : World) (h : b.size ≤ 5000) (h2 : 5000 < s.size) : Calls Try.prog 5 #[.agg #[.int .u8 (k : Int), .int .u8 (f : Int), .int .u8 (t : Int), .string b], .string s] w fun e w' => e = .returned (.bool true) ∧ Below w.heap.size w w' := by
  have c1 : decide ((5000 : Int) < (b.size : Int)) = false := decide_eq_false (by omega)
  have c2 : decide ((5000 : Int) < (s.size : Int)) = true := decide_eq_true (by omega)
  go_enter Try.func5, Try.ntmps5
  go_wp2_with (fail)
  refine (fixed_any _).mono ?_
  rintro e w9 ⟨rfl, b9⟩
  go_wp2_with (fail)
  go_ret
  exact ⟨rfl, below_on (below_al (Below.refl _ _)) b9⟩
set_option maxRecDepth 100000 in
set_option maxHeartbeats 1600000 in
theorem back_00 (k f t : Nat) (b s : ByteArray) (w : World) (h : b.size ≤ 5000) (h2 : s.size ≤ 5000) (hk : k < 256) (hf : f < 256) (ht : t < 256) (k2 f2 t2 : Nat) (b2 : ByteArray) (er : Int) (hd : decR s = (k2, f2, t2, b2, er)) (hm : mayF k f t = true) (he : er = 0) : Calls Try.prog 5 #[.agg #[.int .u8 (k : Int), .int .u8 (f : Int), .int .u8 (t : Int), .string b], .string s] w fun e w' => e = .returned (.bool true) ∧ Below w.heap.size w w' := by
  have c1 : decide ((5000 : Int) < (b.size : Int)) = false := decide_eq_false (by omega)
  have c2 : decide ((5000 : Int) < (s.size : Int)) = false := decide_eq_false (by omega)
  have E1 := Lib.hid (fun c tb W h => penc c tb k f t b W h hk hf ht (by omega))
  have D2 : Hid (∀ (c tb : Nat) (W : World) (h : Cod W c tb), Calls Try.prog 10 #[.pointer (some ⟨c, 0, none⟩), .string s] W fun e w' => e = .returned (.tuple #[.agg #[.int .u8 (k2 : Int), .int .u8 (f2 : Int), .int .u8 (t2 : Int), .string b2], .int .i64 er]) ∧ IsTab w' tb ∧ Chg (fun x => x = tb) W w') := Lib.hid (fun c tb W h => by
    have := pdec c tb s W h (by omega)
    rw [hd] at this
    exact this)
  have es : encS k f t b = encB k f t b := by unfold encS; rw [if_neg (by omega), if_neg (by rw [hm]; simp)]
  have ee : encE k f t b = 0 := by unfold encE; rw [if_neg (by omega), if_neg (by rw [hm]; simp)]
  have hz := encB_size k f t b
  have D1 : Hid (∀ (c tb : Nat) (W : World) (h : Cod W c tb), Calls Try.prog 10 #[.pointer (some ⟨c, 0, none⟩), .string (encB k f t b)] W fun e w' => e = .returned (.tuple #[.agg #[.int .u8 (k : Int), .int .u8 (f : Int), .int .u8 (t : Int), .string b], .int .i64 0]) ∧ IsTab w' tb ∧ Chg (fun x => x = tb) W w') := Lib.hid (fun c tb W h => by
    have := pdec c tb (encB k f t b) W h (by omega)
    rw [dec_enc k f t b hm (by omega)] at this
    exact this)
  rw [es, ee] at E1
  generalize encB k f t b = t1 at *
  clear es ee hm
  obtain ⟨m1, m2, m3, m4, m5, m6⟩ := dec_ok hd he
  have zs := encB_size k2 f2 t2 b2
  rw [m3] at zs
  have es2 : encS k2 f2 t2 b2 = s := by unfold encS; rw [if_neg (by omega), if_neg (by rw [m1]; simp)]; exact m3
  have ee2 : encE k2 f2 t2 b2 = 0 := by unfold encE; rw [if_neg (by omega), if_neg (by rw [m1]; simp)]
  have E2 := Lib.hid (fun c tb W h => penc c tb k2 f2 t2 b2 W h m4 m5 m6 (by omega))
  rw [es2, ee2] at E2
  subst he
  clear es2 ee2 m1 m2 m3 m4 m5 m6 zs
  clear hd
  go_enter Try.func5, Try.ntmps5
  go_wp2_with (fail)
  have HA := Lib.hid (at_new w #[.int .u8 (k : Int), .int .u8 (f : Int), .int .u8 (t : Int), .string b] 23)
  have HB := Lib.hid (below_al (o := .cells #[.int .u8 (k : Int), .int .u8 (f : Int), .int .u8 (t : Int), .string b] 23) (Below.refl w.heap.size w))
  have hsz : w.heap.size < (w.alloc (.cells #[.int .u8 (k : Int), .int .u8 (f : Int), .int .u8 (t : Int), .string b] 23)).heap.size := At.lt HA.out
  refine (fnew _).mono ?_
  rintro e w1 ⟨c, tb, rfl, hc, g1, g2, g3, g4, b1⟩
  have HC := Lib.hid hc
  replace HA := Lib.hid (at_below HA.out b1)
  replace HB := Lib.hid (below_on HB.out b1)
  clear hc b1
  go_wp2_with (fail)
  refine (fnew _).mono ?_
  rintro e w2 ⟨d, td, rfl, hc, g5, g6, g7, g8, b1⟩
  have HD := Lib.hid hc
  replace HC := Lib.hid (cod_below HC.out b1)
  replace HA := Lib.hid (at_below HA.out b1)
  replace HB := Lib.hid (below_on HB.out b1)
  clear hc b1
  obtain ⟨x0, x1, x2, x3, -⟩ := at4 HA.out
  go_wp2_with (fail)
  clear x0 x1 x2 x3
  refine (E1.out _ _ _ HC.out).mono ?_
  rintro e w3 ⟨rfl, t9, k9⟩
  replace HC := Lib.hid (cod_chg HC.out t9 k9)
  replace HD := Lib.hid (cod_far HD.out k9 (by omega) (by omega))
  replace HA := Lib.hid (at_chg HA.out k9 (by omega))
  replace HB := Lib.hid (below_chg HB.out k9 (fun i h => by omega))
  clear t9 k9
  go_wp2_with (fail)
  refine (D1.out _ _ _ HD.out).mono ?_
  rintro e w4 ⟨rfl, t9, k9⟩
  replace HD := Lib.hid (cod_chg HD.out t9 k9)
  replace HC := Lib.hid (cod_far HC.out k9 (by omega) (by omega))
  replace HA := Lib.hid (at_chg HA.out k9 (by omega))
  replace HB := Lib.hid (below_chg HB.out k9 (fun i h => by omega))
  clear t9 k9
  have lA4 : w.heap.size < w4.heap.size := At.lt HA.out
  obtain ⟨x0, x1, x2, x3, -⟩ := at4 HA.out
  go_wp2_with (fail)
  clear x0 x1 x2 x3
  have HF := Lib.hid (at_new w4 #[.int .u8 (k : Int), .int .u8 (f : Int), .int .u8 (t : Int), .string b] 23)
  have lHF : w4.heap.size < (w4.alloc (.cells #[.int .u8 (k : Int), .int .u8 (f : Int), .int .u8 (t : Int), .string b] 23)).heap.size := At.lt HF.out
  have mHF : tb < w4.heap.size := isTab_lt HC.out.t
  have nHF : td < w4.heap.size := isTab_lt HD.out.t
  have oHF : c < w4.heap.size := At.lt HC.out.a
  have pHF : d < w4.heap.size := At.lt HD.out.a
  replace HC := Lib.hid (cod_al (o := .cells #[.int .u8 (k : Int), .int .u8 (f : Int), .int .u8 (t : Int), .string b] 23) HC.out)
  replace HD := Lib.hid (cod_al (o := .cells #[.int .u8 (k : Int), .int .u8 (f : Int), .int .u8 (t : Int), .string b] 23) HD.out)
  replace HA := Lib.hid (at_alloc (o := .cells #[.int .u8 (k : Int), .int .u8 (f : Int), .int .u8 (t : Int), .string b] 23) HA.out)
  replace HB := Lib.hid (below_al (o := .cells #[.int .u8 (k : Int), .int .u8 (f : Int), .int .u8 (t : Int), .string b] 23) HB.out)
  generalize w4.alloc (.cells #[.int .u8 (k : Int), .int .u8 (f : Int), .int .u8 (t : Int), .string b] 23) = w4a at *
  generalize w4.heap.size = yHF at *
  refine (D2.out _ _ _ HD.out).mono ?_
  rintro e w5 ⟨rfl, t9, k9⟩
  replace HD := Lib.hid (cod_chg HD.out t9 k9)
  replace HC := Lib.hid (cod_far HC.out k9 (by omega) (by omega))
  replace HA := Lib.hid (at_chg HA.out k9 (by omega))
  replace HB := Lib.hid (below_chg HB.out k9 (fun i h => by omega))
  replace HF := Lib.hid (at_chg HF.out k9 (by omega))
  clear t9 k9
  go_wp2_with (fail)
  have HG := Lib.hid (at_new w5 #[.int .u8 (k2 : Int), .int .u8 (f2 : Int), .int .u8 (t2 : Int), .string b2] 23)
  have lHG : w5.heap.size < (w5.alloc (.cells #[.int .u8 (k2 : Int), .int .u8 (f2 : Int), .int .u8 (t2 : Int), .string b2] 23)).heap.size := At.lt HG.out
  have mHG : tb < w5.heap.size := isTab_lt HC.out.t
  have nHG : td < w5.heap.size := isTab_lt HD.out.t
  have oHG : c < w5.heap.size := At.lt HC.out.a
  have pHG : d < w5.heap.size := At.lt HD.out.a
  replace HC := Lib.hid (cod_al (o := .cells #[.int .u8 (k2 : Int), .int .u8 (f2 : Int), .int .u8 (t2 : Int), .string b2] 23) HC.out)
  replace HD := Lib.hid (cod_al (o := .cells #[.int .u8 (k2 : Int), .int .u8 (f2 : Int), .int .u8 (t2 : Int), .string b2] 23) HD.out)
  replace HA := Lib.hid (at_alloc (o := .cells #[.int .u8 (k2 : Int), .int .u8 (f2 : Int), .int .u8 (t2 : Int), .string b2] 23) HA.out)
  replace HB := Lib.hid (below_al (o := .cells #[.int .u8 (k2 : Int), .int .u8 (f2 : Int), .int .u8 (t2 : Int), .string b2] 23) HB.out)
  generalize w5.alloc (.cells #[.int .u8 (k2 : Int), .int .u8 (f2 : Int), .int .u8 (t2 : Int), .string b2] 23) = w5a at *
  generalize w5.heap.size = yHG at *
  refine (E2.out _ _ _ HC.out).mono ?_
  rintro e w6 ⟨rfl, t9, k9⟩
  replace HC := Lib.hid (cod_chg HC.out t9 k9)
  replace HD := Lib.hid (cod_far HD.out k9 (by omega) (by omega))
  replace HA := Lib.hid (at_chg HA.out k9 (by omega))
  replace HB := Lib.hid (below_chg HB.out k9 (fun i h => by omega))
  clear t9 k9
  go_wp2_with (fail)
  refine (fixed_any _).mono ?_
  rintro e w9 ⟨rfl, b9⟩
  go_wp2_with (fail)
  go_ret
  exact ⟨rfl, below_on HB.out b9⟩
set_option maxRecDepth 100000 in
set_option maxHeartbeats 1600000 in
theorem back_01 (k f t : Nat) (b s : ByteArray) (w : World) (h : b.size ≤ 5000) (h2 : s.size ≤ 5000) (hk : k < 256) (hf : f < 256) (ht : t < 256) (k2 f2 t2 : Nat) (b2 : ByteArray) (er : Int) (hd : decR s = (k2, f2, t2, b2, er)) (hm : mayF k f t = true) (he : ¬ er = 0) : Calls Try.prog 5 #[.agg #[.int .u8 (k : Int), .int .u8 (f : Int), .int .u8 (t : Int), .string b], .string s] w fun e w' => e = .returned (.bool true) ∧ Below w.heap.size w w' := by
  have c1 : decide ((5000 : Int) < (b.size : Int)) = false := decide_eq_false (by omega)
  have c2 : decide ((5000 : Int) < (s.size : Int)) = false := decide_eq_false (by omega)
  have E1 := Lib.hid (fun c tb W h => penc c tb k f t b W h hk hf ht (by omega))
  have D2 : Hid (∀ (c tb : Nat) (W : World) (h : Cod W c tb), Calls Try.prog 10 #[.pointer (some ⟨c, 0, none⟩), .string s] W fun e w' => e = .returned (.tuple #[.agg #[.int .u8 (k2 : Int), .int .u8 (f2 : Int), .int .u8 (t2 : Int), .string b2], .int .i64 er]) ∧ IsTab w' tb ∧ Chg (fun x => x = tb) W w') := Lib.hid (fun c tb W h => by
    have := pdec c tb s W h (by omega)
    rw [hd] at this
    exact this)
  have es : encS k f t b = encB k f t b := by unfold encS; rw [if_neg (by omega), if_neg (by rw [hm]; simp)]
  have ee : encE k f t b = 0 := by unfold encE; rw [if_neg (by omega), if_neg (by rw [hm]; simp)]
  have hz := encB_size k f t b
  have D1 : Hid (∀ (c tb : Nat) (W : World) (h : Cod W c tb), Calls Try.prog 10 #[.pointer (some ⟨c, 0, none⟩), .string (encB k f t b)] W fun e w' => e = .returned (.tuple #[.agg #[.int .u8 (k : Int), .int .u8 (f : Int), .int .u8 (t : Int), .string b], .int .i64 0]) ∧ IsTab w' tb ∧ Chg (fun x => x = tb) W w') := Lib.hid (fun c tb W h => by
    have := pdec c tb (encB k f t b) W h (by omega)
    rw [dec_enc k f t b hm (by omega)] at this
    exact this)
  rw [es, ee] at E1
  generalize encB k f t b = t1 at *
  clear es ee hm
  have ce : (er == 0) = false := beq_eq_false_iff_ne.2 he
  clear he
  clear hd
  go_enter Try.func5, Try.ntmps5
  go_wp2_with (fail)
  have HA := Lib.hid (at_new w #[.int .u8 (k : Int), .int .u8 (f : Int), .int .u8 (t : Int), .string b] 23)
  have HB := Lib.hid (below_al (o := .cells #[.int .u8 (k : Int), .int .u8 (f : Int), .int .u8 (t : Int), .string b] 23) (Below.refl w.heap.size w))
  have hsz : w.heap.size < (w.alloc (.cells #[.int .u8 (k : Int), .int .u8 (f : Int), .int .u8 (t : Int), .string b] 23)).heap.size := At.lt HA.out
  refine (fnew _).mono ?_
  rintro e w1 ⟨c, tb, rfl, hc, g1, g2, g3, g4, b1⟩
  have HC := Lib.hid hc
  replace HA := Lib.hid (at_below HA.out b1)
  replace HB := Lib.hid (below_on HB.out b1)
  clear hc b1
  go_wp2_with (fail)
  refine (fnew _).mono ?_
  rintro e w2 ⟨d, td, rfl, hc, g5, g6, g7, g8, b1⟩
  have HD := Lib.hid hc
  replace HC := Lib.hid (cod_below HC.out b1)
  replace HA := Lib.hid (at_below HA.out b1)
  replace HB := Lib.hid (below_on HB.out b1)
  clear hc b1
  obtain ⟨x0, x1, x2, x3, -⟩ := at4 HA.out
  go_wp2_with (fail)
  clear x0 x1 x2 x3
  refine (E1.out _ _ _ HC.out).mono ?_
  rintro e w3 ⟨rfl, t9, k9⟩
  replace HC := Lib.hid (cod_chg HC.out t9 k9)
  replace HD := Lib.hid (cod_far HD.out k9 (by omega) (by omega))
  replace HA := Lib.hid (at_chg HA.out k9 (by omega))
  replace HB := Lib.hid (below_chg HB.out k9 (fun i h => by omega))
  clear t9 k9
  go_wp2_with (fail)
  refine (D1.out _ _ _ HD.out).mono ?_
  rintro e w4 ⟨rfl, t9, k9⟩
  replace HD := Lib.hid (cod_chg HD.out t9 k9)
  replace HC := Lib.hid (cod_far HC.out k9 (by omega) (by omega))
  replace HA := Lib.hid (at_chg HA.out k9 (by omega))
  replace HB := Lib.hid (below_chg HB.out k9 (fun i h => by omega))
  clear t9 k9
  have lA4 : w.heap.size < w4.heap.size := At.lt HA.out
  obtain ⟨x0, x1, x2, x3, -⟩ := at4 HA.out
  go_wp2_with (fail)
  clear x0 x1 x2 x3
  have HF := Lib.hid (at_new w4 #[.int .u8 (k : Int), .int .u8 (f : Int), .int .u8 (t : Int), .string b] 23)
  have lHF : w4.heap.size < (w4.alloc (.cells #[.int .u8 (k : Int), .int .u8 (f : Int), .int .u8 (t : Int), .string b] 23)).heap.size := At.lt HF.out
  have mHF : tb < w4.heap.size := isTab_lt HC.out.t
  have nHF : td < w4.heap.size := isTab_lt HD.out.t
  have oHF : c < w4.heap.size := At.lt HC.out.a
  have pHF : d < w4.heap.size := At.lt HD.out.a
  replace HC := Lib.hid (cod_al (o := .cells #[.int .u8 (k : Int), .int .u8 (f : Int), .int .u8 (t : Int), .string b] 23) HC.out)
  replace HD := Lib.hid (cod_al (o := .cells #[.int .u8 (k : Int), .int .u8 (f : Int), .int .u8 (t : Int), .string b] 23) HD.out)
  replace HA := Lib.hid (at_alloc (o := .cells #[.int .u8 (k : Int), .int .u8 (f : Int), .int .u8 (t : Int), .string b] 23) HA.out)
  replace HB := Lib.hid (below_al (o := .cells #[.int .u8 (k : Int), .int .u8 (f : Int), .int .u8 (t : Int), .string b] 23) HB.out)
  generalize w4.alloc (.cells #[.int .u8 (k : Int), .int .u8 (f : Int), .int .u8 (t : Int), .string b] 23) = w4a at *
  generalize w4.heap.size = yHF at *
  refine (D2.out _ _ _ HD.out).mono ?_
  rintro e w5 ⟨rfl, t9, k9⟩
  replace HD := Lib.hid (cod_chg HD.out t9 k9)
  replace HC := Lib.hid (cod_far HC.out k9 (by omega) (by omega))
  replace HA := Lib.hid (at_chg HA.out k9 (by omega))
  replace HB := Lib.hid (below_chg HB.out k9 (fun i h => by omega))
  replace HF := Lib.hid (at_chg HF.out k9 (by omega))
  clear t9 k9
  go_wp2_with (fail)
  have HG := Lib.hid (at_new w5 #[.int .u8 (k2 : Int), .int .u8 (f2 : Int), .int .u8 (t2 : Int), .string b2] 23)
  have lHG : w5.heap.size < (w5.alloc (.cells #[.int .u8 (k2 : Int), .int .u8 (f2 : Int), .int .u8 (t2 : Int), .string b2] 23)).heap.size := At.lt HG.out
  have mHG : tb < w5.heap.size := isTab_lt HC.out.t
  have nHG : td < w5.heap.size := isTab_lt HD.out.t
  have oHG : c < w5.heap.size := At.lt HC.out.a
  have pHG : d < w5.heap.size := At.lt HD.out.a
  replace HC := Lib.hid (cod_al (o := .cells #[.int .u8 (k2 : Int), .int .u8 (f2 : Int), .int .u8 (t2 : Int), .string b2] 23) HC.out)
  replace HD := Lib.hid (cod_al (o := .cells #[.int .u8 (k2 : Int), .int .u8 (f2 : Int), .int .u8 (t2 : Int), .string b2] 23) HD.out)
  replace HA := Lib.hid (at_alloc (o := .cells #[.int .u8 (k2 : Int), .int .u8 (f2 : Int), .int .u8 (t2 : Int), .string b2] 23) HA.out)
  replace HB := Lib.hid (below_al (o := .cells #[.int .u8 (k2 : Int), .int .u8 (f2 : Int), .int .u8 (t2 : Int), .string b2] 23) HB.out)
  generalize w5.alloc (.cells #[.int .u8 (k2 : Int), .int .u8 (f2 : Int), .int .u8 (t2 : Int), .string b2] 23) = w5a at *
  generalize w5.heap.size = yHG at *
  refine (fixed_any _).mono ?_
  rintro e w9 ⟨rfl, b9⟩
  go_wp2_with (fail)
  go_ret
  exact ⟨rfl, below_on HB.out b9⟩
set_option maxRecDepth 100000 in
set_option maxHeartbeats 1600000 in
theorem back_10 (k f t : Nat) (b s : ByteArray) (w : World) (h : b.size ≤ 5000) (h2 : s.size ≤ 5000) (hk : k < 256) (hf : f < 256) (ht : t < 256) (k2 f2 t2 : Nat) (b2 : ByteArray) (er : Int) (hd : decR s = (k2, f2, t2, b2, er)) (hm : mayF k f t = false) (he : er = 0) : Calls Try.prog 5 #[.agg #[.int .u8 (k : Int), .int .u8 (f : Int), .int .u8 (t : Int), .string b], .string s] w fun e w' => e = .returned (.bool true) ∧ Below w.heap.size w w' := by
  have c1 : decide ((5000 : Int) < (b.size : Int)) = false := decide_eq_false (by omega)
  have c2 : decide ((5000 : Int) < (s.size : Int)) = false := decide_eq_false (by omega)
  have E1 := Lib.hid (fun c tb W h => penc c tb k f t b W h hk hf ht (by omega))
  have D2 : Hid (∀ (c tb : Nat) (W : World) (h : Cod W c tb), Calls Try.prog 10 #[.pointer (some ⟨c, 0, none⟩), .string s] W fun e w' => e = .returned (.tuple #[.agg #[.int .u8 (k2 : Int), .int .u8 (f2 : Int), .int .u8 (t2 : Int), .string b2], .int .i64 er]) ∧ IsTab w' tb ∧ Chg (fun x => x = tb) W w') := Lib.hid (fun c tb W h => by
    have := pdec c tb s W h (by omega)
    rw [hd] at this
    exact this)
  have ee : encE k f t b = 1 := by unfold encE; rw [if_neg (by omega), if_pos hm]
  rw [ee] at E1
  generalize encS k f t b = t1 at *
  clear ee hm
  obtain ⟨m1, m2, m3, m4, m5, m6⟩ := dec_ok hd he
  have zs := encB_size k2 f2 t2 b2
  rw [m3] at zs
  have es2 : encS k2 f2 t2 b2 = s := by unfold encS; rw [if_neg (by omega), if_neg (by rw [m1]; simp)]; exact m3
  have ee2 : encE k2 f2 t2 b2 = 0 := by unfold encE; rw [if_neg (by omega), if_neg (by rw [m1]; simp)]
  have E2 := Lib.hid (fun c tb W h => penc c tb k2 f2 t2 b2 W h m4 m5 m6 (by omega))
  rw [es2, ee2] at E2
  subst he
  clear es2 ee2 m1 m2 m3 m4 m5 m6 zs
  clear hd
  go_enter Try.func5, Try.ntmps5
  go_wp2_with (fail)
  have HA := Lib.hid (at_new w #[.int .u8 (k : Int), .int .u8 (f : Int), .int .u8 (t : Int), .string b] 23)
  have HB := Lib.hid (below_al (o := .cells #[.int .u8 (k : Int), .int .u8 (f : Int), .int .u8 (t : Int), .string b] 23) (Below.refl w.heap.size w))
  have hsz : w.heap.size < (w.alloc (.cells #[.int .u8 (k : Int), .int .u8 (f : Int), .int .u8 (t : Int), .string b] 23)).heap.size := At.lt HA.out
  refine (fnew _).mono ?_
  rintro e w1 ⟨c, tb, rfl, hc, g1, g2, g3, g4, b1⟩
  have HC := Lib.hid hc
  replace HA := Lib.hid (at_below HA.out b1)
  replace HB := Lib.hid (below_on HB.out b1)
  clear hc b1
  go_wp2_with (fail)
  refine (fnew _).mono ?_
  rintro e w2 ⟨d, td, rfl, hc, g5, g6, g7, g8, b1⟩
  have HD := Lib.hid hc
  replace HC := Lib.hid (cod_below HC.out b1)
  replace HA := Lib.hid (at_below HA.out b1)
  replace HB := Lib.hid (below_on HB.out b1)
  clear hc b1
  obtain ⟨x0, x1, x2, x3, -⟩ := at4 HA.out
  go_wp2_with (fail)
  clear x0 x1 x2 x3
  refine (E1.out _ _ _ HC.out).mono ?_
  rintro e w3 ⟨rfl, t9, k9⟩
  replace HC := Lib.hid (cod_chg HC.out t9 k9)
  replace HD := Lib.hid (cod_far HD.out k9 (by omega) (by omega))
  replace HA := Lib.hid (at_chg HA.out k9 (by omega))
  replace HB := Lib.hid (below_chg HB.out k9 (fun i h => by omega))
  clear t9 k9
  go_wp2_with (fail)
  refine (D2.out _ _ _ HD.out).mono ?_
  rintro e w5 ⟨rfl, t9, k9⟩
  replace HD := Lib.hid (cod_chg HD.out t9 k9)
  replace HC := Lib.hid (cod_far HC.out k9 (by omega) (by omega))
  replace HA := Lib.hid (at_chg HA.out k9 (by omega))
  replace HB := Lib.hid (below_chg HB.out k9 (fun i h => by omega))
  clear t9 k9
  go_wp2_with (fail)
  have HG := Lib.hid (at_new w5 #[.int .u8 (k2 : Int), .int .u8 (f2 : Int), .int .u8 (t2 : Int), .string b2] 23)
  have lHG : w5.heap.size < (w5.alloc (.cells #[.int .u8 (k2 : Int), .int .u8 (f2 : Int), .int .u8 (t2 : Int), .string b2] 23)).heap.size := At.lt HG.out
  have mHG : tb < w5.heap.size := isTab_lt HC.out.t
  have nHG : td < w5.heap.size := isTab_lt HD.out.t
  have oHG : c < w5.heap.size := At.lt HC.out.a
  have pHG : d < w5.heap.size := At.lt HD.out.a
  replace HC := Lib.hid (cod_al (o := .cells #[.int .u8 (k2 : Int), .int .u8 (f2 : Int), .int .u8 (t2 : Int), .string b2] 23) HC.out)
  replace HD := Lib.hid (cod_al (o := .cells #[.int .u8 (k2 : Int), .int .u8 (f2 : Int), .int .u8 (t2 : Int), .string b2] 23) HD.out)
  replace HA := Lib.hid (at_alloc (o := .cells #[.int .u8 (k2 : Int), .int .u8 (f2 : Int), .int .u8 (t2 : Int), .string b2] 23) HA.out)
  replace HB := Lib.hid (below_al (o := .cells #[.int .u8 (k2 : Int), .int .u8 (f2 : Int), .int .u8 (t2 : Int), .string b2] 23) HB.out)
  generalize w5.alloc (.cells #[.int .u8 (k2 : Int), .int .u8 (f2 : Int), .int .u8 (t2 : Int), .string b2] 23) = w5a at *
  generalize w5.heap.size = yHG at *
  refine (E2.out _ _ _ HC.out).mono ?_
  rintro e w6 ⟨rfl, t9, k9⟩
  replace HC := Lib.hid (cod_chg HC.out t9 k9)
  replace HD := Lib.hid (cod_far HD.out k9 (by omega) (by omega))
  replace HA := Lib.hid (at_chg HA.out k9 (by omega))
  replace HB := Lib.hid (below_chg HB.out k9 (fun i h => by omega))
  clear t9 k9
  go_wp2_with (fail)
  refine (fixed_any _).mono ?_
  rintro e w9 ⟨rfl, b9⟩
  go_wp2_with (fail)
  go_ret
  exact ⟨rfl, below_on HB.out b9⟩
set_option maxRecDepth 100000 in
set_option maxHeartbeats 1600000 in
theorem back_11 (k f t : Nat) (b s : ByteArray) (w : World) (h : b.size ≤ 5000) (h2 : s.size ≤ 5000) (hk : k < 256) (hf : f < 256) (ht : t < 256) (k2 f2 t2 : Nat) (b2 : ByteArray) (er : Int) (hd : decR s = (k2, f2, t2, b2, er)) (hm : mayF k f t = false) (he : ¬ er = 0) : Calls Try.prog 5 #[.agg #[.int .u8 (k : Int), .int .u8 (f : Int), .int .u8 (t : Int), .string b], .string s] w fun e w' => e = .returned (.bool true) ∧ Below w.heap.size w w' := by
  have c1 : decide ((5000 : Int) < (b.size : Int)) = false := decide_eq_false (by omega)
  have c2 : decide ((5000 : Int) < (s.size : Int)) = false := decide_eq_false (by omega)
  have E1 := Lib.hid (fun c tb W h => penc c tb k f t b W h hk hf ht (by omega))
  have D2 : Hid (∀ (c tb : Nat) (W : World) (h : Cod W c tb), Calls Try.prog 10 #[.pointer (some ⟨c, 0, none⟩), .string s] W fun e w' => e = .returned (.tuple #[.agg #[.int .u8 (k2 : Int), .int .u8 (f2 : Int), .int .u8 (t2 : Int), .string b2], .int .i64 er]) ∧ IsTab w' tb ∧ Chg (fun x => x = tb) W w') := Lib.hid (fun c tb W h => by
    have := pdec c tb s W h (by omega)
    rw [hd] at this
    exact this)
  have ee : encE k f t b = 1 := by unfold encE; rw [if_neg (by omega), if_pos hm]
  rw [ee] at E1
  generalize encS k f t b = t1 at *
  clear ee hm
  have ce : (er == 0) = false := beq_eq_false_iff_ne.2 he
  clear he
  clear hd
  go_enter Try.func5, Try.ntmps5
  go_wp2_with (fail)
  have HA := Lib.hid (at_new w #[.int .u8 (k : Int), .int .u8 (f : Int), .int .u8 (t : Int), .string b] 23)
  have HB := Lib.hid (below_al (o := .cells #[.int .u8 (k : Int), .int .u8 (f : Int), .int .u8 (t : Int), .string b] 23) (Below.refl w.heap.size w))
  have hsz : w.heap.size < (w.alloc (.cells #[.int .u8 (k : Int), .int .u8 (f : Int), .int .u8 (t : Int), .string b] 23)).heap.size := At.lt HA.out
  refine (fnew _).mono ?_
  rintro e w1 ⟨c, tb, rfl, hc, g1, g2, g3, g4, b1⟩
  have HC := Lib.hid hc
  replace HA := Lib.hid (at_below HA.out b1)
  replace HB := Lib.hid (below_on HB.out b1)
  clear hc b1
  go_wp2_with (fail)
  refine (fnew _).mono ?_
  rintro e w2 ⟨d, td, rfl, hc, g5, g6, g7, g8, b1⟩
  have HD := Lib.hid hc
  replace HC := Lib.hid (cod_below HC.out b1)
  replace HA := Lib.hid (at_below HA.out b1)
  replace HB := Lib.hid (below_on HB.out b1)
  clear hc b1
  obtain ⟨x0, x1, x2, x3, -⟩ := at4 HA.out
  go_wp2_with (fail)
  clear x0 x1 x2 x3
  refine (E1.out _ _ _ HC.out).mono ?_
  rintro e w3 ⟨rfl, t9, k9⟩
  replace HC := Lib.hid (cod_chg HC.out t9 k9)
  replace HD := Lib.hid (cod_far HD.out k9 (by omega) (by omega))
  replace HA := Lib.hid (at_chg HA.out k9 (by omega))
  replace HB := Lib.hid (below_chg HB.out k9 (fun i h => by omega))
  clear t9 k9
  go_wp2_with (fail)
  refine (D2.out _ _ _ HD.out).mono ?_
  rintro e w5 ⟨rfl, t9, k9⟩
  replace HD := Lib.hid (cod_chg HD.out t9 k9)
  replace HC := Lib.hid (cod_far HC.out k9 (by omega) (by omega))
  replace HA := Lib.hid (at_chg HA.out k9 (by omega))
  replace HB := Lib.hid (below_chg HB.out k9 (fun i h => by omega))
  clear t9 k9
  go_wp2_with (fail)
  have HG := Lib.hid (at_new w5 #[.int .u8 (k2 : Int), .int .u8 (f2 : Int), .int .u8 (t2 : Int), .string b2] 23)
  have lHG : w5.heap.size < (w5.alloc (.cells #[.int .u8 (k2 : Int), .int .u8 (f2 : Int), .int .u8 (t2 : Int), .string b2] 23)).heap.size := At.lt HG.out
  have mHG : tb < w5.heap.size := isTab_lt HC.out.t
  have nHG : td < w5.heap.size := isTab_lt HD.out.t
  have oHG : c < w5.heap.size := At.lt HC.out.a
  have pHG : d < w5.heap.size := At.lt HD.out.a
  replace HC := Lib.hid (cod_al (o := .cells #[.int .u8 (k2 : Int), .int .u8 (f2 : Int), .int .u8 (t2 : Int), .string b2] 23) HC.out)
  replace HD := Lib.hid (cod_al (o := .cells #[.int .u8 (k2 : Int), .int .u8 (f2 : Int), .int .u8 (t2 : Int), .string b2] 23) HD.out)
  replace HA := Lib.hid (at_alloc (o := .cells #[.int .u8 (k2 : Int), .int .u8 (f2 : Int), .int .u8 (t2 : Int), .string b2] 23) HA.out)
  replace HB := Lib.hid (below_al (o := .cells #[.int .u8 (k2 : Int), .int .u8 (f2 : Int), .int .u8 (t2 : Int), .string b2] 23) HB.out)
  generalize w5.alloc (.cells #[.int .u8 (k2 : Int), .int .u8 (f2 : Int), .int .u8 (t2 : Int), .string b2] 23) = w5a at *
  generalize w5.heap.size = yHG at *
  refine (fixed_any _).mono ?_
  rintro e w9 ⟨rfl, b9⟩
  go_wp2_with (fail)
  go_ret
  exact ⟨rfl, below_on HB.out b9⟩
theorem FrameBack_walk (k f t : Int) (b s : ByteArray) (w : World) (h : (0 ≤ k ∧ k ≤ 255) ∧ (0 ≤ f ∧ f ≤ 255) ∧ (0 ≤ t ∧ t ≤ 255)) :
    Calls Try.prog 5 #[.agg #[.int .u8 k, .int .u8 f, .int .u8 t, .string b], .string s] w fun e w' => e = .returned (.bool true) ∧ Below w.heap.size w w' := by
  obtain ⟨k, rfl⟩ : ∃ n : Nat, k = n := ⟨k.toNat, by omega⟩
  obtain ⟨f, rfl⟩ : ∃ n : Nat, f = n := ⟨f.toNat, by omega⟩
  obtain ⟨t, rfl⟩ : ∃ n : Nat, t = n := ⟨t.toNat, by omega⟩
  by_cases hb : b.size ≤ 5000
  · by_cases hs : s.size ≤ 5000
    · obtain ⟨k2, f2, t2, b2, er, hd⟩ : ∃ k2 f2 t2 b2 er, decR s = (k2, f2, t2, b2, er) := ⟨_, _, _, _, _, rfl⟩
      cases hm : mayF k f t
      · by_cases he : er = 0
        · exact back_10 k f t b s w hb hs (by omega) (by omega) (by omega) k2 f2 t2 b2 er hd hm he
        · exact back_11 k f t b s w hb hs (by omega) (by omega) (by omega) k2 f2 t2 b2 er hd hm he
      · by_cases he : er = 0
        · exact back_00 k f t b s w hb hs (by omega) (by omega) (by omega) k2 f2 t2 b2 er hd hm he
        · exact back_01 k f t b s w hb hs (by omega) (by omega) (by omega) k2 f2 t2 b2 er hd hm he
    · exact back_great2 k f t b s w hb (by omega)
  · exact back_great1 k f t b s w (by omega)
end Go.Proofs.Ytkddaedjgbakkaa.Frame

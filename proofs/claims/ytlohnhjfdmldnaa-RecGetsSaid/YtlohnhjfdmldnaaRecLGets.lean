/- RecGets answers true: the walk (own text; printed by wip/tools/gen_reclaws.py, a program of this session). -/
import Derived.Test.YtlohnhjfdmldnaaRecFixed
import Derived.Test.YtlohnhjfdmldnaaRecGotten
import Derived.Test.YtlohnhjfdmldnaaRecEq
namespace Go.Proofs.Ytlohnhjfdmldnaa.Rec
open Go.Proofs.Ytlohnhjfdmldnaa Go.RowKit Go.Proofs.Ytlohnhjfdmldnaa.Mem Go.Proofs.Ytlohnhjfdmldnaa.Hlc
set_option linter.unusedVariables false
set_option linter.unusedSimpArgs false
theorem gets_great (s : ByteArray) (a : Int) (w : World) (h : 5000 < s.size) : Calls Try.prog 9 #[.string s, .int .i64 a] w fun e w' => e = .returned (.bool true) ∧ Below w.heap.size w w' := by
  have c1 : decide ((5000 : Int) < (s.size : Int)) = true := decide_eq_true (by omega)
  go_enter Try.func9, Try.ntmps9
  go_wp2_with (fail)
  refine (fixed_any _).mono ?_
  rintro e w1 ⟨rfl, b1⟩
  go_wp2_with (fail)
  go_ret
  exact ⟨rfl, b1⟩
set_option maxRecDepth 100000 in
set_option maxHeartbeats 1600000 in
theorem gets_bad (s : ByteArray) (a : Int) (w : World) (h : s.size ≤ 5000) (rk : ByteArray) (rp rl rn rd rf rx : Int) (rb : ByteArray) (nx er : Int) (hg : getT s a = recV rk rp rl rn rd rf rx rb nx er) (he : ¬ er = 0) : Calls Try.prog 9 #[.string s, .int .i64 a] w fun e w' => e = .returned (.bool true) ∧ Below w.heap.size w w' := by
  have c1 : decide ((5000 : Int) < (s.size : Int)) = false := decide_eq_false (by omega)
  have h1 : ∀ W : World, Calls Try.prog 26 #[.string s, .int .i64 a] W fun e w' => e = .returned (.tuple #[.agg #[.string rk, .int .u64 rp, .int .u32 rl, .int .u8 rn, .int .u8 rd, .int .u32 rf, .int .u64 rx, .string rb], .int .i64 nx, .int .i64 er]) ∧ Below W.heap.size W w' := fun W => by
    have := pget_any s a W (by omega)
    rw [hg] at this
    exact this
  have h2 : ∀ W : World, Calls Try.prog 27 #[.string s, .int .i64 a] W fun e w' => e = .returned (.tuple #[.agg #[.string rk, .int .u64 rp, .int .u32 rl, .int .u8 rn, .int .u8 rd, .int .u32 rf, .int .u64 rx, .string rb], .int .i64 nx, .int .i64 er]) ∧ Below W.heap.size W w' := fun W => by
    have := rget_any s a W (by omega)
    rw [hg] at this
    exact this
  have H1 := Lib.hid h1
  have H2 := Lib.hid h2
  have hq := fun w => eqRec_cmp w rk rp rl rn rd rf rx rb rp rl rn rd rf rx rb
  have hcc : cmpR rp rl rn rd rf rx rb rp rl rn rd rf rx rb = 0 := cmp2_zero (a := ⟨rp, rl, rn, rd, rf, rx, rb⟩) (c := ⟨rp, rl, rn, rd, rf, rx, rb⟩) |>.2 rfl
  rw [hcc] at hq
  have hq2 := fun w => run_neq_struct (P := Try.prog) (w := w) 27 #[.string rk, .int .u64 rp, .int .u32 rl, .int .u8 rn, .int .u8 rd, .int .u32 rf, .int .u64 rx, .string rb] #[.string rk, .int .u64 rp, .int .u32 rl, .int .u8 rn, .int .u8 rd, .int .u32 rf, .int .u64 rx, .string rb]
  simp only [hq, Result.andThen] at hq2
  have ce : (er != 0) = true := bne_iff_ne.2 he
  clear he
  clear h1 h2 hg hcc
  go_enter Try.func9, Try.ntmps9
  go_wp2_with (fail)
  refine (H1.out _).mono ?_
  rintro e w1 ⟨rfl, b1⟩
  have HB := Lib.hid b1
  clear b1
  go_wp2_with (fail)
  have HA := Lib.hid (at_new w1 #[.string rk, .int .u64 rp, .int .u32 rl, .int .u8 rn, .int .u8 rd, .int .u32 rf, .int .u64 rx, .string rb] 27)
  replace HB := Lib.hid (below_al (o := .cells #[.string rk, .int .u64 rp, .int .u32 rl, .int .u8 rn, .int .u8 rd, .int .u32 rf, .int .u64 rx, .string rb] 27) HB.out)
  refine (H2.out _).mono ?_
  rintro e w2 ⟨rfl, b2⟩
  replace HA := Lib.hid (at_below HA.out b2)
  replace HB := Lib.hid (below_on HB.out b2)
  clear b2
  have l1 : w1.heap.size < w2.heap.size := At.lt HA.out
  go_wp2_with (fail)
  have HC := Lib.hid (at_new w2 #[.string rk, .int .u64 rp, .int .u32 rl, .int .u8 rn, .int .u8 rd, .int .u32 rf, .int .u64 rx, .string rb] 27)
  replace HA := Lib.hid (at_alloc (o := .cells #[.string rk, .int .u64 rp, .int .u32 rl, .int .u8 rn, .int .u8 rd, .int .u32 rf, .int .u64 rx, .string rb] 27) HA.out)
  replace HB := Lib.hid (below_al (o := .cells #[.string rk, .int .u64 rp, .int .u32 rl, .int .u8 rn, .int .u8 rd, .int .u32 rf, .int .u64 rx, .string rb] 27) HB.out)
  refine (fixed_any _).mono ?_
  rintro e w3 ⟨rfl, b3⟩
  replace HA := Lib.hid (at_below HA.out b3)
  replace HC := Lib.hid (at_below HC.out b3)
  replace HB := Lib.hid (below_on HB.out b3)
  clear b3
  obtain ⟨x0, x1, x2, x3, x4, x5, x6, x7, -⟩ := at8 HA.out
  obtain ⟨y0, y1, y2, y3, y4, y5, y6, y7, -⟩ := at8 HC.out
  go_wp2_with (fail)
  go_ret
  exact ⟨rfl, HB.out⟩
set_option maxRecDepth 100000 in
set_option maxHeartbeats 1600000 in
theorem gets_ok (s : ByteArray) (a : Int) (w : World) (h : s.size ≤ 5000) (rk : ByteArray) (rp rl rn rd rf rx : Int) (rb : ByteArray) (nx : Int) (hg : getT s a = recV rk rp rl rn rd rf rx rb nx 0) (hs : Seg s a nx (recB rk rp rl rn rd rf rx rb)) (hm : mayR rk rp rn rd rf rx rb = true) (hb : Bnd rp rl rn rd rf rx) : Calls Try.prog 9 #[.string s, .int .i64 a] w fun e w' => e = .returned (.bool true) ∧ Below w.heap.size w w' := by
  have c1 : decide ((5000 : Int) < (s.size : Int)) = false := decide_eq_false (by omega)
  have h1 : ∀ W : World, Calls Try.prog 26 #[.string s, .int .i64 a] W fun e w' => e = .returned (.tuple #[.agg #[.string rk, .int .u64 rp, .int .u32 rl, .int .u8 rn, .int .u8 rd, .int .u32 rf, .int .u64 rx, .string rb], .int .i64 nx, .int .i64 0]) ∧ Below W.heap.size W w' := fun W => by
    have := pget_any s a W (by omega)
    rw [hg] at this
    exact this
  have h2 : ∀ W : World, Calls Try.prog 27 #[.string s, .int .i64 a] W fun e w' => e = .returned (.tuple #[.agg #[.string rk, .int .u64 rp, .int .u32 rl, .int .u8 rn, .int .u8 rd, .int .u32 rf, .int .u64 rx, .string rb], .int .i64 nx, .int .i64 0]) ∧ Below W.heap.size W w' := fun W => by
    have := rget_any s a W (by omega)
    rw [hg] at this
    exact this
  have H1 := Lib.hid h1
  have H2 := Lib.hid h2
  have hq := fun w => eqRec_cmp w rk rp rl rn rd rf rx rb rp rl rn rd rf rx rb
  have hcc : cmpR rp rl rn rd rf rx rb rp rl rn rd rf rx rb = 0 := cmp2_zero (a := ⟨rp, rl, rn, rd, rf, rx, rb⟩) (c := ⟨rp, rl, rn, rd, rf, rx, rb⟩) |>.2 rfl
  rw [hcc] at hq
  have hq2 := fun w => run_neq_struct (P := Try.prog) (w := w) 27 #[.string rk, .int .u64 rp, .int .u32 rl, .int .u8 rn, .int .u8 rd, .int .u32 rf, .int .u64 rx, .string rb] #[.string rk, .int .u64 rp, .int .u32 rl, .int .u8 rn, .int .u8 rd, .int .u32 rf, .int .u64 rx, .string rb]
  simp only [hq, Result.andThen] at hq2
  have hz : rk.size ≤ 1000000 := by have := (mayR_size hm).1; omega
  have hE : recE rk rp rn rd rf rx rb = 0 := if_pos hm
  have h3 := fun w => recPut_any rk rp rl rn rd rf rx rb w hz hb
  rw [hE] at h3
  simp only [hm, if_true] at h3
  have H3 := Lib.hid h3
  obtain ⟨x, y, rfl, rfl, g1, g2, g3⟩ := hs
  have hsl : ∀ W : World, (Instr.slice 9 (.string s) (some (.int .i64 (x : Int))) (some (.int .i64 (y : Int))) none).run Try.prog W = .ok (.string (recB rk rp rl rn rd rf rx rb)) W := fun W => by
    rw [← g3]
    go_simp
    try (intro hh; exfalso; omega)
  have c5 : decide ((y : Int) ≤ (s.size : Int)) = true := decide_eq_true (by omega)
  have c6 : decide (y ≤ s.size) = true := decide_eq_true g2
  clear h3 hE hm hb g3
  generalize recB rk rp rl rn rd rf rx rb = S at *
  clear h1 h2 hg hcc
  go_enter Try.func9, Try.ntmps9
  go_wp2_with (fail)
  refine (H1.out _).mono ?_
  rintro e w1 ⟨rfl, b1⟩
  have HB := Lib.hid b1
  clear b1
  go_wp2_with (fail)
  have HA := Lib.hid (at_new w1 #[.string rk, .int .u64 rp, .int .u32 rl, .int .u8 rn, .int .u8 rd, .int .u32 rf, .int .u64 rx, .string rb] 27)
  replace HB := Lib.hid (below_al (o := .cells #[.string rk, .int .u64 rp, .int .u32 rl, .int .u8 rn, .int .u8 rd, .int .u32 rf, .int .u64 rx, .string rb] 27) HB.out)
  refine (H2.out _).mono ?_
  rintro e w2 ⟨rfl, b2⟩
  replace HA := Lib.hid (at_below HA.out b2)
  replace HB := Lib.hid (below_on HB.out b2)
  clear b2
  have l1 : w1.heap.size < w2.heap.size := At.lt HA.out
  go_wp2_with (fail)
  have HC := Lib.hid (at_new w2 #[.string rk, .int .u64 rp, .int .u32 rl, .int .u8 rn, .int .u8 rd, .int .u32 rf, .int .u64 rx, .string rb] 27)
  replace HA := Lib.hid (at_alloc (o := .cells #[.string rk, .int .u64 rp, .int .u32 rl, .int .u8 rn, .int .u8 rd, .int .u32 rf, .int .u64 rx, .string rb] 27) HA.out)
  replace HB := Lib.hid (below_al (o := .cells #[.string rk, .int .u64 rp, .int .u32 rl, .int .u8 rn, .int .u8 rd, .int .u32 rf, .int .u64 rx, .string rb] 27) HB.out)
  refine (fixed_any _).mono ?_
  rintro e w3 ⟨rfl, b3⟩
  replace HA := Lib.hid (at_below HA.out b3)
  replace HC := Lib.hid (at_below HC.out b3)
  replace HB := Lib.hid (below_on HB.out b3)
  clear b3
  obtain ⟨x0, x1, x2, x3, x4, x5, x6, x7, -⟩ := at8 HA.out
  obtain ⟨y0, y1, y2, y3, y4, y5, y6, y7, -⟩ := at8 HC.out
  go_wp2_with (fail)
  clear x0 x1 x2 x3 x4 x5 x6 x7 y0 y1 y2 y3 y4 y5 y6 y7
  refine (H3.out _).mono ?_
  rintro e w4 ⟨rfl, b4⟩
  replace HB := Lib.hid (below_on HB.out b4)
  clear b4
  go_wp2_with (fail)
  go_ret
  exact ⟨rfl, HB.out⟩
theorem RecGets_walk (s : ByteArray) (a : Int) (w : World) : Calls Try.prog 9 #[.string s, .int .i64 a] w fun e w' => e = .returned (.bool true) ∧ Below w.heap.size w w' := by
  by_cases h : s.size ≤ 5000
  · rcases getT_cases s a with ⟨e, he, hg⟩ | ⟨k, p, l, n, d, f, x, b, v, hg, hs, hm, hb⟩
    · exact gets_bad s a w h ⟨#[]⟩ 0 0 0 0 0 0 ⟨#[]⟩ 0 e hg he
    · exact gets_ok s a w h k p l n d f x b v hg hs hm hb
  · exact gets_great s a w (by omega)
end Go.Proofs.Ytlohnhjfdmldnaa.Rec

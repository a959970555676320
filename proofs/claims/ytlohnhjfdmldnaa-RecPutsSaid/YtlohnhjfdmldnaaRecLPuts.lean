/- RecPuts answers true: the walk (own text; printed by wip/tools/gen_reclaws.py, a program of this session). -/
import Derived.Test.YtlohnhjfdmldnaaRecFixed
import Derived.Test.YtlohnhjfdmldnaaRecGreat
import Derived.Test.YtlohnhjfdmldnaaRecBack
import Derived.Test.YtlohnhjfdmldnaaRecEq
namespace Go.Proofs.Ytlohnhjfdmldnaa.Rec
open Go.Proofs.Ytlohnhjfdmldnaa Go.RowKit Go.Proofs.Ytlohnhjfdmldnaa.Mem Go.Proofs.Ytlohnhjfdmldnaa.Hlc
set_option linter.unusedVariables false
set_option linter.unusedSimpArgs false
theorem puts_great (rk : ByteArray) (rp rl rn rd rf rx : Int) (rb : ByteArray) (u v : ByteArray) (w : World) (hg : gr rk rb = true) : Calls Try.prog 8 #[.agg #[.string rk, .int .u64 rp, .int .u32 rl, .int .u8 rn, .int .u8 rd, .int .u32 rf, .int .u64 rx, .string rb], .string u, .string v] w fun e w' => e = .returned (.bool true) ∧ Below w.heap.size w w' := by
  have HG := Lib.hid (fun b t w h => great1 rk rp rl rn rd rf rx rb b t w h)
  rw [hg] at HG
  go_enter Try.func8, Try.ntmps8
  go_wp2_with (fail)
  have hA2 := at_new (w.alloc (.cells #[.string rk, .int .u64 rp, .int .u32 rl, .int .u8 rn, .int .u8 rd, .int .u32 rf, .int .u64 rx, .string rb] 27)) #[.string rk, .int .u64 rp, .int .u32 rl, .int .u8 rn, .int .u8 rd, .int .u32 rf, .int .u64 rx, .string rb] 27
  rw [World.size_alloc] at hA2
  refine (HG.out (w.heap.size + 1) _ _ hA2).mono ?_
  rintro e w1 ⟨rfl, b1⟩
  clear hA2
  have HA := Lib.hid (at_below (at_alloc (o := .cells #[.string rk, .int .u64 rp, .int .u32 rl, .int .u8 rn, .int .u8 rd, .int .u32 rf, .int .u64 rx, .string rb] 27) (at_new w #[.string rk, .int .u64 rp, .int .u32 rl, .int .u8 rn, .int .u8 rd, .int .u32 rf, .int .u64 rx, .string rb] 27)) b1)
  have HB := Lib.hid (below_on (below_al (o := .cells #[.string rk, .int .u64 rp, .int .u32 rl, .int .u8 rn, .int .u8 rd, .int .u32 rf, .int .u64 rx, .string rb] 27) (below_al (o := .cells #[.string rk, .int .u64 rp, .int .u32 rl, .int .u8 rn, .int .u8 rd, .int .u32 rf, .int .u64 rx, .string rb] 27) (Below.refl w.heap.size w))) b1)
  clear b1
  go_wp2_with (fail)
  refine (fixed_any _).mono ?_
  rintro e w2 ⟨rfl, b2⟩
  go_wp2_with (fail)
  go_ret
  exact ⟨rfl, below_on HB.out b2⟩
theorem puts_great2 (rk : ByteArray) (rp rl rn rd rf rx : Int) (rb : ByteArray) (u v : ByteArray) (w : World) (hg : gr rk rb = false) (hu : 1000 < u.size) : Calls Try.prog 8 #[.agg #[.string rk, .int .u64 rp, .int .u32 rl, .int .u8 rn, .int .u8 rd, .int .u32 rf, .int .u64 rx, .string rb], .string u, .string v] w fun e w' => e = .returned (.bool true) ∧ Below w.heap.size w w' := by
  have c1 : decide ((1000 : Int) < (u.size : Int)) = true := decide_eq_true (by omega)
  have HG := Lib.hid (fun b t w h => great1 rk rp rl rn rd rf rx rb b t w h)
  rw [hg] at HG
  go_enter Try.func8, Try.ntmps8
  go_wp2_with (fail)
  have hA2 := at_new (w.alloc (.cells #[.string rk, .int .u64 rp, .int .u32 rl, .int .u8 rn, .int .u8 rd, .int .u32 rf, .int .u64 rx, .string rb] 27)) #[.string rk, .int .u64 rp, .int .u32 rl, .int .u8 rn, .int .u8 rd, .int .u32 rf, .int .u64 rx, .string rb] 27
  rw [World.size_alloc] at hA2
  refine (HG.out (w.heap.size + 1) _ _ hA2).mono ?_
  rintro e w1 ⟨rfl, b1⟩
  clear hA2
  have HA := Lib.hid (at_below (at_alloc (o := .cells #[.string rk, .int .u64 rp, .int .u32 rl, .int .u8 rn, .int .u8 rd, .int .u32 rf, .int .u64 rx, .string rb] 27) (at_new w #[.string rk, .int .u64 rp, .int .u32 rl, .int .u8 rn, .int .u8 rd, .int .u32 rf, .int .u64 rx, .string rb] 27)) b1)
  have HB := Lib.hid (below_on (below_al (o := .cells #[.string rk, .int .u64 rp, .int .u32 rl, .int .u8 rn, .int .u8 rd, .int .u32 rf, .int .u64 rx, .string rb] 27) (below_al (o := .cells #[.string rk, .int .u64 rp, .int .u32 rl, .int .u8 rn, .int .u8 rd, .int .u32 rf, .int .u64 rx, .string rb] 27) (Below.refl w.heap.size w))) b1)
  clear b1
  go_wp2_with (fail)
  refine (fixed_any _).mono ?_
  rintro e w2 ⟨rfl, b2⟩
  go_wp2_with (fail)
  go_ret
  exact ⟨rfl, below_on HB.out b2⟩
theorem puts_great3 (rk : ByteArray) (rp rl rn rd rf rx : Int) (rb : ByteArray) (u v : ByteArray) (w : World) (hg : gr rk rb = false) (hu : u.size ≤ 1000) (hv : 1000 < v.size) : Calls Try.prog 8 #[.agg #[.string rk, .int .u64 rp, .int .u32 rl, .int .u8 rn, .int .u8 rd, .int .u32 rf, .int .u64 rx, .string rb], .string u, .string v] w fun e w' => e = .returned (.bool true) ∧ Below w.heap.size w w' := by
  have c1 : decide ((1000 : Int) < (u.size : Int)) = false := decide_eq_false (by omega)
  have c2 : decide ((1000 : Int) < (v.size : Int)) = true := decide_eq_true (by omega)
  have HG := Lib.hid (fun b t w h => great1 rk rp rl rn rd rf rx rb b t w h)
  rw [hg] at HG
  go_enter Try.func8, Try.ntmps8
  go_wp2_with (fail)
  have hA2 := at_new (w.alloc (.cells #[.string rk, .int .u64 rp, .int .u32 rl, .int .u8 rn, .int .u8 rd, .int .u32 rf, .int .u64 rx, .string rb] 27)) #[.string rk, .int .u64 rp, .int .u32 rl, .int .u8 rn, .int .u8 rd, .int .u32 rf, .int .u64 rx, .string rb] 27
  rw [World.size_alloc] at hA2
  refine (HG.out (w.heap.size + 1) _ _ hA2).mono ?_
  rintro e w1 ⟨rfl, b1⟩
  clear hA2
  have HA := Lib.hid (at_below (at_alloc (o := .cells #[.string rk, .int .u64 rp, .int .u32 rl, .int .u8 rn, .int .u8 rd, .int .u32 rf, .int .u64 rx, .string rb] 27) (at_new w #[.string rk, .int .u64 rp, .int .u32 rl, .int .u8 rn, .int .u8 rd, .int .u32 rf, .int .u64 rx, .string rb] 27)) b1)
  have HB := Lib.hid (below_on (below_al (o := .cells #[.string rk, .int .u64 rp, .int .u32 rl, .int .u8 rn, .int .u8 rd, .int .u32 rf, .int .u64 rx, .string rb] 27) (below_al (o := .cells #[.string rk, .int .u64 rp, .int .u32 rl, .int .u8 rn, .int .u8 rd, .int .u32 rf, .int .u64 rx, .string rb] 27) (Below.refl w.heap.size w))) b1)
  clear b1
  go_wp2_with (fail)
  refine (fixed_any _).mono ?_
  rintro e w2 ⟨rfl, b2⟩
  go_wp2_with (fail)
  go_ret
  exact ⟨rfl, below_on HB.out b2⟩
set_option maxRecDepth 100000 in
set_option maxHeartbeats 1600000 in
theorem puts_no (rk : ByteArray) (rp rl rn rd rf rx : Int) (rb : ByteArray) (u v : ByteArray) (w : World) (hg : gr rk rb = false) (hu : u.size ≤ 1000) (hv : v.size ≤ 1000) (hm : mayR rk rp rn rd rf rx rb = false) : Calls Try.prog 8 #[.agg #[.string rk, .int .u64 rp, .int .u32 rl, .int .u8 rn, .int .u8 rd, .int .u32 rf, .int .u64 rx, .string rb], .string u, .string v] w fun e w' => e = .returned (.bool true) ∧ Below w.heap.size w w' := by
  have c1 : decide ((1000 : Int) < (u.size : Int)) = false := decide_eq_false (by omega)
  have c2 : decide ((1000 : Int) < (v.size : Int)) = false := decide_eq_false (by omega)
  have hz : rk.size ≤ 1000000 := by
    have := of_decide_eq_false hg
    omega
  have H0 := Lib.hid fixed_any
  have H1 := Lib.hid (fun w => recPut_no rk rp rl rn rd rf rx rb w hz hm)
  have H2 := Lib.hid (fun w => refRecPut_no rk rp rl rn rd rf rx rb w hz hm)
  clear hm
  have HG := Lib.hid (fun b t w h => great1 rk rp rl rn rd rf rx rb b t w h)
  rw [hg] at HG
  go_enter Try.func8, Try.ntmps8
  go_wp2_with (fail)
  have hA2 := at_new (w.alloc (.cells #[.string rk, .int .u64 rp, .int .u32 rl, .int .u8 rn, .int .u8 rd, .int .u32 rf, .int .u64 rx, .string rb] 27)) #[.string rk, .int .u64 rp, .int .u32 rl, .int .u8 rn, .int .u8 rd, .int .u32 rf, .int .u64 rx, .string rb] 27
  rw [World.size_alloc] at hA2
  refine (HG.out (w.heap.size + 1) _ _ hA2).mono ?_
  rintro e w1 ⟨rfl, b1⟩
  clear hA2
  have HA := Lib.hid (at_below (at_alloc (o := .cells #[.string rk, .int .u64 rp, .int .u32 rl, .int .u8 rn, .int .u8 rd, .int .u32 rf, .int .u64 rx, .string rb] 27) (at_new w #[.string rk, .int .u64 rp, .int .u32 rl, .int .u8 rn, .int .u8 rd, .int .u32 rf, .int .u64 rx, .string rb] 27)) b1)
  have HB := Lib.hid (below_on (below_al (o := .cells #[.string rk, .int .u64 rp, .int .u32 rl, .int .u8 rn, .int .u8 rd, .int .u32 rf, .int .u64 rx, .string rb] 27) (below_al (o := .cells #[.string rk, .int .u64 rp, .int .u32 rl, .int .u8 rn, .int .u8 rd, .int .u32 rf, .int .u64 rx, .string rb] 27) (Below.refl w.heap.size w))) b1)
  clear b1
  obtain ⟨x0, x1, x2, x3, x4, x5, x6, x7, -⟩ := at8 HA.out
  go_wp2_with (fail)
  clear x0 x1 x2 x3 x4 x5 x6 x7
  refine (H1.out _).mono ?_
  rintro e w2 ⟨rfl, b2⟩
  replace HA := Lib.hid (at_below HA.out b2)
  replace HB := Lib.hid (below_on HB.out b2)
  clear b2
  obtain ⟨x0, x1, x2, x3, x4, x5, x6, x7, -⟩ := at8 HA.out
  go_wp2_with (fail)
  clear x0 x1 x2 x3 x4 x5 x6 x7
  refine (H2.out _).mono ?_
  rintro e w3 ⟨rfl, b2⟩
  replace HA := Lib.hid (at_below HA.out b2)
  replace HB := Lib.hid (below_on HB.out b2)
  clear b2
  go_wp2_with (fail)
  refine (H0.out _).mono ?_
  rintro e w4 ⟨rfl, b2⟩
  replace HA := Lib.hid (at_below HA.out b2)
  replace HB := Lib.hid (below_on HB.out b2)
  clear b2
  go_wp2_with (fail)
  go_ret
  exact ⟨rfl, HB.out⟩
set_option maxRecDepth 100000 in
set_option maxHeartbeats 1600000 in
theorem puts_yes (rk : ByteArray) (rp rl rn rd rf rx : Int) (rb : ByteArray) (u v : ByteArray) (w : World) (hg : gr rk rb = false) (hu : u.size ≤ 1000) (hv : v.size ≤ 1000) (hm : mayR rk rp rn rd rf rx rb = true) (h0 : (0 ≤ rp ∧ rp ≤ 18446744073709551615) ∧ (0 ≤ rl ∧ rl ≤ 4294967295) ∧ (0 ≤ rn ∧ rn ≤ 255) ∧ (0 ≤ rd ∧ rd ≤ 255) ∧ (0 ≤ rf ∧ rf ≤ 4294967295) ∧ (0 ≤ rx ∧ rx ≤ 18446744073709551615)) : Calls Try.prog 8 #[.agg #[.string rk, .int .u64 rp, .int .u32 rl, .int .u8 rn, .int .u8 rd, .int .u32 rf, .int .u64 rx, .string rb], .string u, .string v] w fun e w' => e = .returned (.bool true) ∧ Below w.heap.size w w' := by
  have c1 : decide ((1000 : Int) < (u.size : Int)) = false := decide_eq_false (by omega)
  have c2 : decide ((1000 : Int) < (v.size : Int)) = false := decide_eq_false (by omega)
  have hz : rk.size ≤ 1000000 := by
    have := of_decide_eq_false hg
    omega
  have H0 := Lib.hid fixed_any
  have hE : recE rk rp rn rd rf rx rb = 0 := if_pos hm
  have h1 := fun w => recPut_any rk rp rl rn rd rf rx rb w hz h0
  have h2 := fun w => refRecPut_any rk rp rl rn rd rf rx rb w hz h0
  rw [hE] at h1 h2
  simp only [hm, if_true] at h1 h2
  have H3 := Lib.hid (fun w => get_back u v rk rp rl rn rd rf rx rb w hu hv hm h0)
  have hs : (recB rk rp rl rn rd rf rx rb).size ≤ 2000 := by
    obtain ⟨m1, -, -, m4, -⟩ := mayR_all hm
    have z0 := accB_size rk (lV rp rl rn rd rf rx) 6
    have z1 := accB_size rk (lV rp rl rn rd rf rx) 4
    have z2 := textB_size rb
    unfold recB
    split
    · rw [ByteArray.size_append]; omega
    · omega
  have H1 := Lib.hid h1
  have H2 := Lib.hid h2
  have hq := fun w => eqRec_cmp w rk rp rl rn rd rf rx rb rp rl rn rd rf rx rb
  have hcc : cmpR rp rl rn rd rf rx rb rp rl rn rd rf rx rb = 0 := cmp2_zero (a := ⟨rp, rl, rn, rd, rf, rx, rb⟩) (c := ⟨rp, rl, rn, rd, rf, rx, rb⟩) |>.2 rfl
  rw [hcc] at hq
  have hq2 := fun w => run_eql_struct (P := Try.prog) (w := w) 27 #[.string rk, .int .u64 rp, .int .u32 rl, .int .u8 rn, .int .u8 rd, .int .u32 rf, .int .u64 rx, .string rb] #[.string rk, .int .u64 rp, .int .u32 rl, .int .u8 rn, .int .u8 rd, .int .u32 rf, .int .u64 rx, .string rb]
  simp only [hq, Result.andThen] at hq2
  clear h1 h2 hm hE hcc
  generalize recB rk rp rl rn rd rf rx rb = S at *
  have hss : ((u ++ S).size : Int) = (u.size : Int) + (S.size : Int) := by rw [ByteArray.size_append]; omega
  have q1 : (9223372036854775807 < u.size + S.size) = False := eq_false (by omega)
  have q2 : (9223372036854775807 < u.size + S.size + v.size) = False := eq_false (by omega)
  have h3 := H3.out
  unfold recV at h3
  rw [hss] at h3
  replace H3 := Lib.hid h3
  clear h3 hss
  have HG := Lib.hid (fun b t w h => great1 rk rp rl rn rd rf rx rb b t w h)
  rw [hg] at HG
  go_enter Try.func8, Try.ntmps8
  go_wp2_with (fail)
  have hA2 := at_new (w.alloc (.cells #[.string rk, .int .u64 rp, .int .u32 rl, .int .u8 rn, .int .u8 rd, .int .u32 rf, .int .u64 rx, .string rb] 27)) #[.string rk, .int .u64 rp, .int .u32 rl, .int .u8 rn, .int .u8 rd, .int .u32 rf, .int .u64 rx, .string rb] 27
  rw [World.size_alloc] at hA2
  refine (HG.out (w.heap.size + 1) _ _ hA2).mono ?_
  rintro e w1 ⟨rfl, b1⟩
  clear hA2
  have HA := Lib.hid (at_below (at_alloc (o := .cells #[.string rk, .int .u64 rp, .int .u32 rl, .int .u8 rn, .int .u8 rd, .int .u32 rf, .int .u64 rx, .string rb] 27) (at_new w #[.string rk, .int .u64 rp, .int .u32 rl, .int .u8 rn, .int .u8 rd, .int .u32 rf, .int .u64 rx, .string rb] 27)) b1)
  have HB := Lib.hid (below_on (below_al (o := .cells #[.string rk, .int .u64 rp, .int .u32 rl, .int .u8 rn, .int .u8 rd, .int .u32 rf, .int .u64 rx, .string rb] 27) (below_al (o := .cells #[.string rk, .int .u64 rp, .int .u32 rl, .int .u8 rn, .int .u8 rd, .int .u32 rf, .int .u64 rx, .string rb] 27) (Below.refl w.heap.size w))) b1)
  clear b1
  obtain ⟨x0, x1, x2, x3, x4, x5, x6, x7, -⟩ := at8 HA.out
  go_wp2_with (fail)
  clear x0 x1 x2 x3 x4 x5 x6 x7
  refine (H1.out _).mono ?_
  rintro e w2 ⟨rfl, b2⟩
  replace HA := Lib.hid (at_below HA.out b2)
  replace HB := Lib.hid (below_on HB.out b2)
  clear b2
  obtain ⟨x0, x1, x2, x3, x4, x5, x6, x7, -⟩ := at8 HA.out
  go_wp2_with (fail)
  clear x0 x1 x2 x3 x4 x5 x6 x7
  refine (H2.out _).mono ?_
  rintro e w3 ⟨rfl, b2⟩
  replace HA := Lib.hid (at_below HA.out b2)
  replace HB := Lib.hid (below_on HB.out b2)
  clear b2
  go_wp2_with (fail)
  refine (H0.out _).mono ?_
  rintro e w4 ⟨rfl, b2⟩
  replace HA := Lib.hid (at_below HA.out b2)
  replace HB := Lib.hid (below_on HB.out b2)
  clear b2
  go_wp2_with (fail)
  refine (H3.out _).mono ?_
  rintro e w5 ⟨rfl, b2⟩
  replace HA := Lib.hid (at_below HA.out b2)
  replace HB := Lib.hid (below_on HB.out b2)
  clear b2
  have lA : w.heap.size < w5.heap.size := At.lt HA.out
  obtain ⟨x0, x1, x2, x3, x4, x5, x6, x7, -⟩ := at8 HA.out
  go_wp2_with (fail)
  go_ret
  exact ⟨rfl, by repeat (first | (with_reducible exact HB.out) | (with_reducible apply below_al))⟩
theorem RecPuts_walk (rk : ByteArray) (rp rl rn rd rf rx : Int) (rb : ByteArray) (u v : ByteArray) (w : World) (h0 : (0 ≤ rp ∧ rp ≤ 18446744073709551615) ∧ (0 ≤ rl ∧ rl ≤ 4294967295) ∧ (0 ≤ rn ∧ rn ≤ 255) ∧ (0 ≤ rd ∧ rd ≤ 255) ∧ (0 ≤ rf ∧ rf ≤ 4294967295) ∧ (0 ≤ rx ∧ rx ≤ 18446744073709551615)) : Calls Try.prog 8 #[.agg #[.string rk, .int .u64 rp, .int .u32 rl, .int .u8 rn, .int .u8 rd, .int .u32 rf, .int .u64 rx, .string rb], .string u, .string v] w fun e w' => e = .returned (.bool true) ∧ Below w.heap.size w w' := by
  cases hg : gr rk rb
  · by_cases hu : u.size ≤ 1000
    · by_cases hv : v.size ≤ 1000
      · cases hm : mayR rk rp rn rd rf rx rb
        · exact puts_no rk rp rl rn rd rf rx rb u v w hg hu hv hm
        · exact puts_yes rk rp rl rn rd rf rx rb u v w hg hu hv hm h0
      · exact puts_great3 rk rp rl rn rd rf rx rb u v w hg hu (by omega)
    · exact puts_great2 rk rp rl rn rd rf rx rb u v w hg (by omega)
  · exact puts_great rk rp rl rn rd rf rx rb u v w hg
end Go.Proofs.Ytlohnhjfdmldnaa.Rec

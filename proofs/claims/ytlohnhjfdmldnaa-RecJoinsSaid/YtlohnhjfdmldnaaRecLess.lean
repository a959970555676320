/- The reference's order of records: the walks (own text; printed by wip/tools/gen_recless.py, a program of this session). -/
import Derived.Test.YtlohnhjfdmldnaaRecPlain
import Derived.Handy
import Derived.Test.YtlohnhjfdmldnaaSets
namespace Go.Proofs.Ytlohnhjfdmldnaa.Rec
open Go.RowKit Go.Proofs.Ytlohnhjfdmldnaa.Mem Go.Proofs.Ytlohnhjfdmldnaa.Hlc Go.Proofs.Ytlohnhjfdmldnaa
set_option linter.unusedVariables false
set_option linter.unusedSimpArgs false
theorem ahead_any (a b : ByteArray) (w : World) (ha : a.size ≤ 1000000) (hb : b.size ≤ 1000000) :
    Calls Try.prog 52 #[.string a, .string b] w fun e w' => e = .returned (.bool (decide (cmpB a b = -1))) ∧ Below w.heap.size w w' := by
  have HD := Lib.hid (cmpB_diff a b)
  have HE := Lib.hid (cmpB_end a b)
  go_enter Try.func52, Try.ntmps52
  go_wp2_with (fail)
  go_loopw [5] (fun x w' => ∃ k : Nat, k ≤ a.size ∧ k ≤ b.size ∧ x = .int .i64 k ∧ Hid (∀ i, i < k → bt a i = bt b i) ∧ ∃ n, w' = w.drewN n) (fun x _ => a.size - (intOf x).toNat)
  case atStart => exact ⟨0, by omega, by omega, rfl, Lib.hid (fun i hi => by omega), 0, rfl⟩
  case round =>
    obtain ⟨k, hka, hkb, rfl, HZ, n, rfl⟩ := hrel
    by_cases h1 : k < a.size
    · by_cases h2 : k < b.size
      · have hd := Lib.hid (HD.out k h1 h2 HZ.out)
        have x1 := bt_at a k h1
        have x2 := bt_at b k h2
        have hz := Lib.hid (fun (h : bt a k = bt b k) => (fun i hi => by by_cases e : i = k; exact e ▸ h; exact HZ.out i (by omega) : ∀ i, i < k + 1 → bt a i = bt b i))
        generalize hz1 : bt a k = z at x1 hd hz
        generalize hz2 : bt b k = y at x2 hd hz
        clear hz1 hz2
        by_cases h3 : z = y
        · have c1 : ((z : Int) != (y : Int)) = false := by simp [h3]
          have hz3 := Lib.hid (hz.out h3)
          clear hd hz
          go_wp2_with (fail)
          go_quiet (fail)
          go_wp2_with (fail)
          exact ⟨⟨k + 1, by omega, by omega, by go_num, hz3, _, rfl⟩, by simp [intOf]; omega⟩
        · have c1 : ((z : Int) != (y : Int)) = true := by simp; omega
          have hr := hd.out h3
          clear hd hz
          by_cases h4 : z < y
          · rw [if_pos h4] at hr
            have c2 : decide ((z : Int) < (y : Int)) = true := decide_eq_true (by omega)
            go_wp2_with (fail)
            go_quiet (fail)
            go_wp2_with (fail)
            go_quiet (fail)
            go_wp2_with (fail)
            go_ret
            exact ⟨by rw [hr]; rfl, by repeat (first | (with_reducible exact Below.refl _ _) | (with_reducible apply below_dn))⟩
          · rw [if_neg h4] at hr
            have c2 : decide ((z : Int) < (y : Int)) = false := decide_eq_false (by omega)
            go_wp2_with (fail)
            go_quiet (fail)
            go_wp2_with (fail)
            go_quiet (fail)
            go_wp2_with (fail)
            go_ret
            exact ⟨by rw [hr]; rfl, by repeat (first | (with_reducible exact Below.refl _ _) | (with_reducible apply below_dn))⟩
      · have hr := HE.out (fun i g1 g2 => HZ.out i (by omega))
        rw [cmpI_gt (by omega)] at hr
        have c1 : decide ((k : Int) < (a.size : Int)) = true := decide_eq_true (by omega)
        have c2 : decide ((k : Int) < (b.size : Int)) = false := decide_eq_false (by omega)
        have c3 : decide (a.size < b.size) = false := decide_eq_false (by omega)
        go_wp2_with (fail)
        go_ret
        exact ⟨by rw [hr]; rfl, by repeat (first | (with_reducible exact Below.refl _ _) | (with_reducible apply below_dn))⟩
    · have hr := HE.out (fun i g1 g2 => HZ.out i (by omega))
      have c1 : decide ((k : Int) < (a.size : Int)) = false := decide_eq_false (by omega)
      by_cases h3 : a.size < b.size
      · rw [cmpI_lt (by omega)] at hr
        have c3 : decide (a.size < b.size) = true := decide_eq_true (by omega)
        go_wp2_with (fail)
        go_ret
        exact ⟨by rw [hr]; rfl, by repeat (first | (with_reducible exact Below.refl _ _) | (with_reducible apply below_dn))⟩
      · have e : a.size = b.size := by omega
        rw [e, cmpI_eq] at hr
        have c3 : decide (a.size < b.size) = false := decide_eq_false (by omega)
        go_wp2_with (fail)
        go_ret
        exact ⟨by rw [hr]; rfl, by repeat (first | (with_reducible exact Below.refl _ _) | (with_reducible apply below_dn))⟩
theorem rless_0 (ak : ByteArray) (ap al an ad af ax : Int) (ab : ByteArray) (ck : ByteArray) (cp cl cn cd cf cx : Int) (cb : ByteArray) (w : World) (ha : ab.size ≤ 1000000) (hc : cb.size ≤ 1000000) (h : ap ≠ cp) :
    Calls Try.prog 34 #[.agg #[.string ak, .int .u64 ap, .int .u32 al, .int .u8 an, .int .u8 ad, .int .u32 af, .int .u64 ax, .string ab], .agg #[.string ck, .int .u64 cp, .int .u32 cl, .int .u8 cn, .int .u8 cd, .int .u32 cf, .int .u64 cx, .string cb]] w fun e w' => e = .returned (.bool (lessS ap al an cp cl cn)) ∧ Below w.heap.size w w' := by
  have c0 : (ap == cp) = false := beq_eq_false_iff_ne.2 h
  have c1 : (ap != cp) = true := bne_iff_ne.2 h
  clear h
  go_enter Try.func34, Try.ntmps34
  go_wp2_with (fail)
  refine (less_any ap al an cp cl cn _).mono ?_
  rintro e w1 ⟨rfl, b1⟩
  go_wp2_with (fail)
  go_ret
  exact ⟨rfl, below_on (below_two _ _ _) b1⟩
theorem rless_1 (ak : ByteArray) (ap al an ad af ax : Int) (ab : ByteArray) (ck : ByteArray) (cp cl cn cd cf cx : Int) (cb : ByteArray) (w : World) (ha : ab.size ≤ 1000000) (hc : cb.size ≤ 1000000) (h : al ≠ cl) :
    Calls Try.prog 34 #[.agg #[.string ak, .int .u64 ap, .int .u32 al, .int .u8 an, .int .u8 ad, .int .u32 af, .int .u64 ax, .string ab], .agg #[.string ck, .int .u64 ap, .int .u32 cl, .int .u8 cn, .int .u8 cd, .int .u32 cf, .int .u64 cx, .string cb]] w fun e w' => e = .returned (.bool (lessS ap al an ap cl cn)) ∧ Below w.heap.size w w' := by
  have c0 : (al == cl) = false := beq_eq_false_iff_ne.2 h
  have c1 : (al != cl) = true := bne_iff_ne.2 h
  clear h
  go_enter Try.func34, Try.ntmps34
  go_wp2_with (fail)
  refine (less_any ap al an ap cl cn _).mono ?_
  rintro e w1 ⟨rfl, b1⟩
  go_wp2_with (fail)
  go_ret
  exact ⟨rfl, below_on (below_two _ _ _) b1⟩
theorem rless_2 (ak : ByteArray) (ap al an ad af ax : Int) (ab : ByteArray) (ck : ByteArray) (cp cl cn cd cf cx : Int) (cb : ByteArray) (w : World) (ha : ab.size ≤ 1000000) (hc : cb.size ≤ 1000000) (h : an ≠ cn) :
    Calls Try.prog 34 #[.agg #[.string ak, .int .u64 ap, .int .u32 al, .int .u8 an, .int .u8 ad, .int .u32 af, .int .u64 ax, .string ab], .agg #[.string ck, .int .u64 ap, .int .u32 al, .int .u8 cn, .int .u8 cd, .int .u32 cf, .int .u64 cx, .string cb]] w fun e w' => e = .returned (.bool (lessS ap al an ap al cn)) ∧ Below w.heap.size w w' := by
  have c0 : (an == cn) = false := beq_eq_false_iff_ne.2 h
  have c1 : (an != cn) = true := bne_iff_ne.2 h
  clear h
  go_enter Try.func34, Try.ntmps34
  go_wp2_with (fail)
  refine (less_any ap al an ap al cn _).mono ?_
  rintro e w1 ⟨rfl, b1⟩
  go_wp2_with (fail)
  go_ret
  exact ⟨rfl, below_on (below_two _ _ _) b1⟩
theorem rless_3 (ak : ByteArray) (ap al an ad af ax : Int) (ab : ByteArray) (ck : ByteArray) (cp cl cn cd cf cx : Int) (cb : ByteArray) (w : World) (ha : ab.size ≤ 1000000) (hc : cb.size ≤ 1000000) (h : ad ≠ cd) :
    Calls Try.prog 34 #[.agg #[.string ak, .int .u64 ap, .int .u32 al, .int .u8 an, .int .u8 ad, .int .u32 af, .int .u64 ax, .string ab], .agg #[.string ck, .int .u64 ap, .int .u32 al, .int .u8 an, .int .u8 cd, .int .u32 cf, .int .u64 cx, .string cb]] w fun e w' => e = .returned (.bool (decide (ad < cd))) ∧ Below w.heap.size w w' := by
  have c0 : (ad == cd) = false := beq_eq_false_iff_ne.2 h
  have c1 : (ad != cd) = true := bne_iff_ne.2 h
  clear h
  go_enter Try.func34, Try.ntmps34
  go_wp2_with (fail)
  go_ret
  exact ⟨rfl, below_two _ _ _⟩
theorem rless_4 (ak : ByteArray) (ap al an ad af ax : Int) (ab : ByteArray) (ck : ByteArray) (cp cl cn cd cf cx : Int) (cb : ByteArray) (w : World) (ha : ab.size ≤ 1000000) (hc : cb.size ≤ 1000000) (h : ab ≠ cb) :
    Calls Try.prog 34 #[.agg #[.string ak, .int .u64 ap, .int .u32 al, .int .u8 an, .int .u8 ad, .int .u32 af, .int .u64 ax, .string ab], .agg #[.string ck, .int .u64 ap, .int .u32 al, .int .u8 an, .int .u8 ad, .int .u32 cf, .int .u64 cx, .string cb]] w fun e w' => e = .returned (.bool (decide (cmpB ab cb = -1))) ∧ Below w.heap.size w w' := by
  have c0 : (ab.toList == cb.toList) = false := beq_eq_false_iff_ne.2 (fun e => h (ByteArray.ext (Array.toList_inj.1 (by rw [← Lib.toList_data, ← Lib.toList_data]; exact e))))
  have c1 : (ab.toList != cb.toList) = true := by simp only [bne, c0]; rfl
  clear h
  go_enter Try.func34, Try.ntmps34
  go_wp2_with (fail)
  refine (ahead_any ab cb _ ha hc).mono ?_
  rintro e w1 ⟨rfl, b1⟩
  go_wp2_with (fail)
  go_ret
  exact ⟨rfl, below_on (below_two _ _ _) b1⟩
theorem rless_5 (ak : ByteArray) (ap al an ad af ax : Int) (ab : ByteArray) (ck : ByteArray) (cp cl cn cd cf cx : Int) (cb : ByteArray) (w : World) (ha : ab.size ≤ 1000000) (hc : cb.size ≤ 1000000) (h : af ≠ cf) :
    Calls Try.prog 34 #[.agg #[.string ak, .int .u64 ap, .int .u32 al, .int .u8 an, .int .u8 ad, .int .u32 af, .int .u64 ax, .string ab], .agg #[.string ck, .int .u64 ap, .int .u32 al, .int .u8 an, .int .u8 ad, .int .u32 cf, .int .u64 cx, .string ab]] w fun e w' => e = .returned (.bool (decide (af < cf))) ∧ Below w.heap.size w w' := by
  have c0 : (af == cf) = false := beq_eq_false_iff_ne.2 h
  have c1 : (af != cf) = true := bne_iff_ne.2 h
  clear h
  go_enter Try.func34, Try.ntmps34
  go_wp2_with (fail)
  go_ret
  exact ⟨rfl, below_two _ _ _⟩
theorem rless_6 (ak : ByteArray) (ap al an ad af ax : Int) (ab : ByteArray) (ck : ByteArray) (cp cl cn cd cf cx : Int) (cb : ByteArray) (w : World) (ha : ab.size ≤ 1000000) (hc : cb.size ≤ 1000000)  :
    Calls Try.prog 34 #[.agg #[.string ak, .int .u64 ap, .int .u32 al, .int .u8 an, .int .u8 ad, .int .u32 af, .int .u64 ax, .string ab], .agg #[.string ck, .int .u64 ap, .int .u32 al, .int .u8 an, .int .u8 ad, .int .u32 af, .int .u64 cx, .string ab]] w fun e w' => e = .returned (.bool (decide (ax < cx))) ∧ Below w.heap.size w w' := by
  go_enter Try.func34, Try.ntmps34
  go_wp2_with (fail)
  go_ret
  exact ⟨rfl, below_two _ _ _⟩
theorem rless_any (ak : ByteArray) (ap al an ad af ax : Int) (ab : ByteArray) (ck : ByteArray) (cp cl cn cd cf cx : Int) (cb : ByteArray) (w : World) (ha : ab.size ≤ 1000000) (hc : cb.size ≤ 1000000) :
    Calls Try.prog 34 #[.agg #[.string ak, .int .u64 ap, .int .u32 al, .int .u8 an, .int .u8 ad, .int .u32 af, .int .u64 ax, .string ab], .agg #[.string ck, .int .u64 cp, .int .u32 cl, .int .u8 cn, .int .u8 cd, .int .u32 cf, .int .u64 cx, .string cb]] w fun e w' => e = .returned (.bool (decide (cmpR ap al an ad af ax ab cp cl cn cd cf cx cb = -1))) ∧ Below w.heap.size w w' := by
  have hI : ∀ x y : Int, decide (x < y) = decide (cmpI x y = -1) := fun x y => by
    unfold cmpI
    by_cases h : x < y
    · simp [h]
    · rw [if_neg h, decide_eq_false h]; split <;> rfl
  rw [cmpR_if]
  by_cases h1 : ap = cp
  · subst h1
    by_cases h2 : al = cl
    · subst h2
      by_cases h3 : an = cn
      · subst h3
        rw [if_neg (by simp [cmpS_zero])]
        by_cases h4 : ad = cd
        · subst h4
          rw [if_neg (by simp [cmpI_eq])]
          by_cases h5 : ab = cb
          · subst h5
            rw [if_neg (by simp [cmpB_zero])]
            by_cases h6 : af = cf
            · subst h6
              rw [if_neg (by simp [cmpI_eq]), ← hI]
              exact rless_6 ak ap al an ad af ax ab ck ap al an ad af cx ab w ha hc
            · rw [if_pos (fun h => h6 (cmpI_zero h)), ← hI]
              exact rless_5 ak ap al an ad af ax ab ck ap al an ad cf cx ab w ha hc h6
          · rw [if_pos (fun h => h5 (cmpB_zero.1 h))]
            exact rless_4 ak ap al an ad af ax ab ck ap al an ad cf cx cb w ha hc h5
        · rw [if_pos (fun h => h4 (cmpI_zero h)), ← hI]
          exact rless_3 ak ap al an ad af ax ab ck ap al an cd cf cx cb w ha hc h4
      · rw [if_pos (fun h => h3 (cmpS_zero.1 h).2.2)]
        exact rless_2 ak ap al an ad af ax ab ck ap al cn cd cf cx cb w ha hc h3
    · rw [if_pos (fun h => h2 (cmpS_zero.1 h).2.1)]
      exact rless_1 ak ap al an ad af ax ab ck ap cl cn cd cf cx cb w ha hc h2
  · rw [if_pos (fun h => h1 (cmpS_zero.1 h).1)]
    exact rless_0 ak ap al an ad af ax ab ck cp cl cn cd cf cx cb w ha hc h1
end Go.Proofs.Ytlohnhjfdmldnaa.Rec

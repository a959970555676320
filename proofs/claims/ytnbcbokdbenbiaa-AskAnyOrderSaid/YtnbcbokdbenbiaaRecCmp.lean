/- How records stand to each other: the program's comparison (own text; printed by wip/tools/gen_reccmp.py, a program of this session). -/
import Derived.Test.YtnbcbokdbenbiaaHlcCmp
import Derived.Test.YtnbcbokdbenbiaaDraw
import Derived.Lib.Bytealg
import Derived.Laws.Externs
import Derived.Deep.Cut
namespace Go.Proofs.Ytnbcbokdbenbiaa.Rec
open Go.RowKit Go.Proofs.Ytnbcbokdbenbiaa.Mem Go.Proofs.Ytnbcbokdbenbiaa.Hlc Go.Proofs.Ytnbcbokdbenbiaa
set_option linter.unusedVariables false
set_option linter.unusedSimpArgs false
/-- How two texts stand to each other, byte by byte. -/
def cmpB (a b : ByteArray) : Int := Lib.compareBytes a.data.toList b.data.toList
/-- The first that isn't 0. -/
def orF (v : Nat → Int) : Nat → Int
  | 0 => 0
  | k + 1 => if orF v k ≠ 0 then orF v k else v k
theorem orF_zero (v : Nat → Int) : ∀ k, (∀ i, i < k → v i = 0) → orF v k = 0
  | 0, _ => rfl
  | k + 1, h => by
    unfold orF
    rw [orF_zero v k (fun i hi => h i (by omega)), if_neg (by omega)]
    exact h k (by omega)
theorem orF_first (v : Nat → Int) (k : Nat) (h : ∀ i, i < k → v i = 0) (hk : v k ≠ 0) : ∀ n, k < n → orF v n = v k
  | 0, hn => by omega
  | n + 1, hn => by
    unfold orF
    by_cases e : k = n
    · subst e
      rw [orF_zero v k h, if_neg (by omega)]
    · rw [orF_first v k h hk n (by omega), if_pos hk]
theorem nan_u8 (x : Int) (w : World) : Calls Try.prog 26 #[.int .u8 x] w fun e w' => e = .returned (.bool false) ∧ Below w.heap.size w w' := by
  have c1 : (x != x) = false := by simp
  go_enter Try.func26, Try.ntmps26
  go_wp2
  go_ret
  exact ⟨rfl, Below.refl _ _⟩
theorem cmp_u8_lt (x y : Int) (w : World) (h : x < y) : Calls Try.prog 22 #[.int .u8 x, .int .u8 y] w fun e w' => e = .returned (.int .i64 (-1)) ∧ Below w.heap.size w w' := by
  have c0 : decide (x < y) = true := by simp; omega
  clear h
  go_enter Try.func22, Try.ntmps22
  go_wp2_with (fail)
  refine (nan_u8 x _).mono ?_
  rintro e w1 ⟨rfl, b1⟩
  go_wp2_with (fail)
  refine (nan_u8 y _).mono ?_
  rintro e w2 ⟨rfl, b2⟩
  go_wp2_with (fail)
  go_ret
  exact ⟨rfl, below_on b1 b2⟩
theorem cmp_u8_gt (x y : Int) (w : World) (h : y < x) : Calls Try.prog 22 #[.int .u8 x, .int .u8 y] w fun e w' => e = .returned (.int .i64 1) ∧ Below w.heap.size w w' := by
  have c0 : decide (x < y) = false := by simp; omega
  have c1 : decide (y < x) = true := by simp; omega
  clear h
  go_enter Try.func22, Try.ntmps22
  go_wp2_with (fail)
  refine (nan_u8 x _).mono ?_
  rintro e w1 ⟨rfl, b1⟩
  go_wp2_with (fail)
  refine (nan_u8 y _).mono ?_
  rintro e w2 ⟨rfl, b2⟩
  go_wp2_with (fail)
  go_ret
  exact ⟨rfl, below_on b1 b2⟩
theorem cmp_u8_eq (x y : Int) (w : World) (h : x = y) : Calls Try.prog 22 #[.int .u8 x, .int .u8 y] w fun e w' => e = .returned (.int .i64 0) ∧ Below w.heap.size w w' := by
  have c0 : decide (x < y) = false := by simp; omega
  have c1 : decide (y < x) = false := by simp; omega
  clear h
  go_enter Try.func22, Try.ntmps22
  go_wp2_with (fail)
  refine (nan_u8 x _).mono ?_
  rintro e w1 ⟨rfl, b1⟩
  go_wp2_with (fail)
  refine (nan_u8 y _).mono ?_
  rintro e w2 ⟨rfl, b2⟩
  go_wp2_with (fail)
  go_ret
  exact ⟨rfl, below_on b1 b2⟩
theorem cmp_u8 (x y : Int) (w : World) : Calls Try.prog 22 #[.int .u8 x, .int .u8 y] w fun e w' => e = .returned (.int .i64 (cmpI x y)) ∧ Below w.heap.size w w' := by
  rcases Int.lt_trichotomy x y with h | h | h
  · rw [cmpI_lt h]; exact cmp_u8_lt x y w h
  · rw [h, cmpI_eq]; exact cmp_u8_eq y y w rfl
  · rw [cmpI_gt h]; exact cmp_u8_gt x y w h
theorem nan_u32 (x : Int) (w : World) : Calls Try.prog 28 #[.int .u32 x] w fun e w' => e = .returned (.bool false) ∧ Below w.heap.size w w' := by
  have c1 : (x != x) = false := by simp
  go_enter Try.func28, Try.ntmps28
  go_wp2
  go_ret
  exact ⟨rfl, Below.refl _ _⟩
theorem cmp_u32_lt (x y : Int) (w : World) (h : x < y) : Calls Try.prog 24 #[.int .u32 x, .int .u32 y] w fun e w' => e = .returned (.int .i64 (-1)) ∧ Below w.heap.size w w' := by
  have c0 : decide (x < y) = true := by simp; omega
  clear h
  go_enter Try.func24, Try.ntmps24
  go_wp2_with (fail)
  refine (nan_u32 x _).mono ?_
  rintro e w1 ⟨rfl, b1⟩
  go_wp2_with (fail)
  refine (nan_u32 y _).mono ?_
  rintro e w2 ⟨rfl, b2⟩
  go_wp2_with (fail)
  go_ret
  exact ⟨rfl, below_on b1 b2⟩
theorem cmp_u32_gt (x y : Int) (w : World) (h : y < x) : Calls Try.prog 24 #[.int .u32 x, .int .u32 y] w fun e w' => e = .returned (.int .i64 1) ∧ Below w.heap.size w w' := by
  have c0 : decide (x < y) = false := by simp; omega
  have c1 : decide (y < x) = true := by simp; omega
  clear h
  go_enter Try.func24, Try.ntmps24
  go_wp2_with (fail)
  refine (nan_u32 x _).mono ?_
  rintro e w1 ⟨rfl, b1⟩
  go_wp2_with (fail)
  refine (nan_u32 y _).mono ?_
  rintro e w2 ⟨rfl, b2⟩
  go_wp2_with (fail)
  go_ret
  exact ⟨rfl, below_on b1 b2⟩
theorem cmp_u32_eq (x y : Int) (w : World) (h : x = y) : Calls Try.prog 24 #[.int .u32 x, .int .u32 y] w fun e w' => e = .returned (.int .i64 0) ∧ Below w.heap.size w w' := by
  have c0 : decide (x < y) = false := by simp; omega
  have c1 : decide (y < x) = false := by simp; omega
  clear h
  go_enter Try.func24, Try.ntmps24
  go_wp2_with (fail)
  refine (nan_u32 x _).mono ?_
  rintro e w1 ⟨rfl, b1⟩
  go_wp2_with (fail)
  refine (nan_u32 y _).mono ?_
  rintro e w2 ⟨rfl, b2⟩
  go_wp2_with (fail)
  go_ret
  exact ⟨rfl, below_on b1 b2⟩
theorem cmp_u32 (x y : Int) (w : World) : Calls Try.prog 24 #[.int .u32 x, .int .u32 y] w fun e w' => e = .returned (.int .i64 (cmpI x y)) ∧ Below w.heap.size w w' := by
  rcases Int.lt_trichotomy x y with h | h | h
  · rw [cmpI_lt h]; exact cmp_u32_lt x y w h
  · rw [h, cmpI_eq]; exact cmp_u32_eq y y w rfl
  · rw [cmpI_gt h]; exact cmp_u32_gt x y w h
theorem nan_u64 (x : Int) (w : World) : Calls Try.prog 29 #[.int .u64 x] w fun e w' => e = .returned (.bool false) ∧ Below w.heap.size w w' := by
  have c1 : (x != x) = false := by simp
  go_enter Try.func29, Try.ntmps29
  go_wp2
  go_ret
  exact ⟨rfl, Below.refl _ _⟩
theorem cmp_u64_lt (x y : Int) (w : World) (h : x < y) : Calls Try.prog 25 #[.int .u64 x, .int .u64 y] w fun e w' => e = .returned (.int .i64 (-1)) ∧ Below w.heap.size w w' := by
  have c0 : decide (x < y) = true := by simp; omega
  clear h
  go_enter Try.func25, Try.ntmps25
  go_wp2_with (fail)
  refine (nan_u64 x _).mono ?_
  rintro e w1 ⟨rfl, b1⟩
  go_wp2_with (fail)
  refine (nan_u64 y _).mono ?_
  rintro e w2 ⟨rfl, b2⟩
  go_wp2_with (fail)
  go_ret
  exact ⟨rfl, below_on b1 b2⟩
theorem cmp_u64_gt (x y : Int) (w : World) (h : y < x) : Calls Try.prog 25 #[.int .u64 x, .int .u64 y] w fun e w' => e = .returned (.int .i64 1) ∧ Below w.heap.size w w' := by
  have c0 : decide (x < y) = false := by simp; omega
  have c1 : decide (y < x) = true := by simp; omega
  clear h
  go_enter Try.func25, Try.ntmps25
  go_wp2_with (fail)
  refine (nan_u64 x _).mono ?_
  rintro e w1 ⟨rfl, b1⟩
  go_wp2_with (fail)
  refine (nan_u64 y _).mono ?_
  rintro e w2 ⟨rfl, b2⟩
  go_wp2_with (fail)
  go_ret
  exact ⟨rfl, below_on b1 b2⟩
theorem cmp_u64_eq (x y : Int) (w : World) (h : x = y) : Calls Try.prog 25 #[.int .u64 x, .int .u64 y] w fun e w' => e = .returned (.int .i64 0) ∧ Below w.heap.size w w' := by
  have c0 : decide (x < y) = false := by simp; omega
  have c1 : decide (y < x) = false := by simp; omega
  clear h
  go_enter Try.func25, Try.ntmps25
  go_wp2_with (fail)
  refine (nan_u64 x _).mono ?_
  rintro e w1 ⟨rfl, b1⟩
  go_wp2_with (fail)
  refine (nan_u64 y _).mono ?_
  rintro e w2 ⟨rfl, b2⟩
  go_wp2_with (fail)
  go_ret
  exact ⟨rfl, below_on b1 b2⟩
theorem cmp_u64 (x y : Int) (w : World) : Calls Try.prog 25 #[.int .u64 x, .int .u64 y] w fun e w' => e = .returned (.int .i64 (cmpI x y)) ∧ Below w.heap.size w w' := by
  rcases Int.lt_trichotomy x y with h | h | h
  · rw [cmpI_lt h]; exact cmp_u64_lt x y w h
  · rw [h, cmpI_eq]; exact cmp_u64_eq y y w rfl
  · rw [cmpI_gt h]; exact cmp_u64_gt x y w h
theorem ext_cmp (a b : ByteArray) (w : World) : (callFunc 30 #[.string a, .string b]).run Try.prog w = .ok (.value (.int .i64 (cmpB a b))) w := by
  rw [run_callFunc_extern (e := Extern.BytealgCompare.compare) Try.func30 (by kernel_rfl) (by kernel_rfl) (by kernel_rfl) (by kernel_rfl), Lib.run_compareString]
  rfl
theorem cmpString (a b : ByteArray) (w : World) : Calls Try.prog 27 #[.string a, .string b] w fun e w' => e = .returned (.int .i64 (cmpB a b)) ∧ Below w.heap.size w w' := by
  have hx := ext_cmp a b
  go_enter Try.func27, Try.ntmps27
  go_wp2
  go_ret
  exact ⟨rfl, Below.refl _ _⟩
theorem cmp_str (a b : ByteArray) (w : World) : Calls Try.prog 23 #[.string a, .string b] w fun e w' => e = .returned (.int .i64 (cmpB a b)) ∧ Below w.heap.size w w' := by
  have hx := Lib.hid (fun w => cmpString a b w)
  go_enter Try.func23, Try.ntmps23
  go_wp2_with (fail)
  refine (hx.out _).mono ?_
  rintro e w1 ⟨rfl, b1⟩
  go_wp2_with (fail)
  go_ret
  exact ⟨rfl, b1⟩
theorem or_any (v : Nat → Int) (b : Nat) (w : World) (hv : ∀ i, i < 5 → w.cell? ⟨b, i, none⟩ = some (.int .i64 (v i))) :
    Calls Try.prog 20 #[.slice (some ⟨b, 0, none⟩) 5 5] w fun e w' => e = .returned (.int .i64 (orF v 5)) ∧ Below w.heap.size w w' := by
  have HV := Lib.hid hv
  have h5 := orF_zero v 5
  clear hv
  go_enter Try.func20, Try.ntmps20
  go_wp2_with (fail)
  go_loopw [8] (fun x w' => ∃ k : Nat, k ≤ 5 ∧ x = .int .i64 k ∧ Hid (∀ i, i < k → v i = 0) ∧ w' = w) (fun x _ => 5 - (intOf x).toNat)
  case atStart => exact ⟨0, by omega, rfl, Lib.hid (fun i hi => by omega), rfl⟩
  case round =>
    obtain ⟨k, hk, rfl, HZ, rfl⟩ := hrel
    by_cases hlt : k < 5
    · have e1 := HV.out k hlt
      by_cases hz : v k = 0
      · have hz2 : (v k != 0) = false := by simp [hz]
        go_wp2_with (fail)
        exact ⟨⟨k + 1, by omega, by go_num, Lib.hid (fun i hi => by by_cases e : i = k; exact e ▸ hz; exact HZ.out i (by omega)), trivial⟩, by simp [intOf]; omega⟩
      · have hz2 : (v k != 0) = true := by simp [hz]
        have hf := orF_first v k HZ.out hz 5 hlt
        go_wp2_with (fail)
        go_ret
        exact ⟨by rw [hf]; rfl, Below.refl _ _⟩
    · obtain rfl : k = 5 := by omega
      have hf := h5 HZ.out
      go_wp2_with (fail)
      go_ret
      exact ⟨by rw [hf]; rfl, Below.refl _ _⟩
/-- How two records stand to each other. -/
def cmpV (ap al an ad af ax : Int) (ab : ByteArray) (cp cl cn cd cf cx : Int) (cb : ByteArray) : Nat → Int := fun i => match i with | 0 => cmpS ap al an cp cl cn | 1 => cmpI ad cd | 2 => cmpB ab cb | 3 => cmpI af cf | _ => cmpI ax cx
def cmpR (ap al an ad af ax : Int) (ab : ByteArray) (cp cl cn cd cf cx : Int) (cb : ByteArray) : Int := orF (cmpV ap al an ad af ax ab cp cl cn cd cf cx cb) 5
set_option maxRecDepth 100000 in
set_option maxHeartbeats 1600000 in
theorem rcompare_any (ak : ByteArray) (ap al an ad af ax : Int) (ab : ByteArray) (ck : ByteArray) (cp cl cn cd cf cx : Int) (cb : ByteArray) (w : World) :
    Calls Try.prog 17 #[.agg #[.string ak, .int .u64 ap, .int .u32 al, .int .u8 an, .int .u8 ad, .int .u32 af, .int .u64 ax, .string ab], .agg #[.string ck, .int .u64 cp, .int .u32 cl, .int .u8 cn, .int .u8 cd, .int .u32 cf, .int .u64 cx, .string cb]] w fun e w' => e = .returned (.int .i64 (cmpR ap al an ad af ax ab cp cl cn cd cf cx cb)) ∧ Below w.heap.size w w' := by
  have H1 := Lib.hid (fun w => compare_any ap al an cp cl cn w)
  have H2 := Lib.hid (fun w => cmp_u8 ad cd w)
  have H3 := Lib.hid (fun w => cmp_str ab cb w)
  have H4 := Lib.hid (fun w => cmp_u32 af cf w)
  have H5 := Lib.hid (fun w => cmp_u64 ax cx w)
  go_enter Try.func17, Try.ntmps17
  go_upto_region 1 with (fail)
  have HA := Lib.hid (at_drew (at_alloc (o := .cells #[.string ck, .int .u64 cp, .int .u32 cl, .int .u8 cn, .int .u8 cd, .int .u32 cf, .int .u64 cx, .string cb] 32) (at_new w #[.string ak, .int .u64 ap, .int .u32 al, .int .u8 an, .int .u8 ad, .int .u32 af, .int .u64 ax, .string ab] 32)))
  have HC := Lib.hid (at_drew (at_new (w.alloc (.cells #[.string ak, .int .u64 ap, .int .u32 al, .int .u8 an, .int .u8 ad, .int .u32 af, .int .u64 ax, .string ab] 32)) #[.string ck, .int .u64 cp, .int .u32 cl, .int .u8 cn, .int .u8 cd, .int .u32 cf, .int .u64 cx, .string cb] 32))
  have HB := Lib.hid (Below.drew (below_al (o := .cells #[.string ck, .int .u64 cp, .int .u32 cl, .int .u8 cn, .int .u8 cd, .int .u32 cf, .int .u64 cx, .string cb] 32) (below_al (o := .cells #[.string ak, .int .u64 ap, .int .u32 al, .int .u8 an, .int .u8 ad, .int .u32 af, .int .u64 ax, .string ab] 32) (Below.refl w.heap.size w))))
  rw [World.size_alloc] at HC
  refine wp_region_held_drew (S := (fun W => (W.cell? ⟨w.heap.size, 0, none⟩ = some (.string ak) ∧ W.cell? ⟨w.heap.size, 1, none⟩ = some (.int .u64 ap) ∧ W.cell? ⟨w.heap.size, 2, none⟩ = some (.int .u32 al) ∧ W.cell? ⟨w.heap.size, 3, none⟩ = some (.int .u8 an) ∧ W.cell? ⟨w.heap.size, 4, none⟩ = some (.int .u8 ad) ∧ W.cell? ⟨w.heap.size, 5, none⟩ = some (.int .u32 af) ∧ W.cell? ⟨w.heap.size, 6, none⟩ = some (.int .u64 ax) ∧ W.cell? ⟨w.heap.size, 7, none⟩ = some (.string ab)) ∧ (W.cell? ⟨(w.heap.size + 1), 0, none⟩ = some (.string ck) ∧ W.cell? ⟨(w.heap.size + 1), 1, none⟩ = some (.int .u64 cp) ∧ W.cell? ⟨(w.heap.size + 1), 2, none⟩ = some (.int .u32 cl) ∧ W.cell? ⟨(w.heap.size + 1), 3, none⟩ = some (.int .u8 cn) ∧ W.cell? ⟨(w.heap.size + 1), 4, none⟩ = some (.int .u8 cd) ∧ W.cell? ⟨(w.heap.size + 1), 5, none⟩ = some (.int .u32 cf) ∧ W.cell? ⟨(w.heap.size + 1), 6, none⟩ = some (.int .u64 cx) ∧ W.cell? ⟨(w.heap.size + 1), 7, none⟩ = some (.string cb)))) (by kernel_rfl) ?_ (fun hHeld => ?_)
  · (try dsimp only)
    exact ⟨⟨(at8 HA.out).1, (at8 HA.out).2.1, (at8 HA.out).2.2.1, (at8 HA.out).2.2.2.1, (at8 HA.out).2.2.2.2.1, (at8 HA.out).2.2.2.2.2.1, (at8 HA.out).2.2.2.2.2.2.1, (at8 HA.out).2.2.2.2.2.2.2.1⟩, ⟨(at8 HC.out).1, (at8 HC.out).2.1, (at8 HC.out).2.2.1, (at8 HC.out).2.2.2.1, (at8 HC.out).2.2.2.2.1, (at8 HC.out).2.2.2.2.2.1, (at8 HC.out).2.2.2.2.2.2.1, (at8 HC.out).2.2.2.2.2.2.2.1⟩⟩
  refine Draw.take_w (i := 0) (v := ?vv1) rfl (by kernel_rfl) (by kernel_rfl) (by kernel_rfl) (fun _ _ _ h => h) (by rfl) ?hy1 (by assumption) ?rest1
  case hy1 => ((intro w hSw); (try dsimp only at hSw); go_simp; (try with_reducible rfl))
  (try simp only [Act.put, List.setIfInBounds_toArray, List.set_cons_zero, List.set_cons_succ])
  refine Draw.take_w (i := 1) (v := ?vv2) rfl (by kernel_rfl) (by kernel_rfl) (by kernel_rfl) (fun _ _ _ h => h) (by rfl) ?hy2 (by assumption) ?rest2
  case hy2 => ((intro w hSw); (try dsimp only at hSw); go_simp; (try with_reducible rfl))
  (try simp only [Act.put, List.setIfInBounds_toArray, List.set_cons_zero, List.set_cons_succ])
  refine Draw.take_w (i := 2) (v := ?vv3) rfl (by kernel_rfl) (by kernel_rfl) (by kernel_rfl) (fun _ _ _ h => h) (by rfl) ?hy3 (by assumption) ?rest3
  case hy3 => ((intro w hSw); (try dsimp only at hSw); go_simp; (try with_reducible rfl))
  (try simp only [Act.put, List.setIfInBounds_toArray, List.set_cons_zero, List.set_cons_succ])
  refine Draw.take_w (i := 3) (v := ?vv4) rfl (by kernel_rfl) (by kernel_rfl) (by kernel_rfl) (fun _ _ _ h => h) (by rfl) ?hy4 (by assumption) ?rest4
  case hy4 => ((intro w hSw); (try dsimp only at hSw); go_simp; (try with_reducible rfl))
  (try simp only [Act.put, List.setIfInBounds_toArray, List.set_cons_zero, List.set_cons_succ])
  refine Draw.take_w (i := 5) (v := ?vv5) rfl (by kernel_rfl) (by kernel_rfl) (by kernel_rfl) (fun _ _ _ h => h) (by rfl) ?hy5 (by assumption) ?rest5
  case hy5 => ((intro w hSw); (try dsimp only at hSw); go_simp; (try with_reducible rfl))
  (try simp only [Act.put, List.setIfInBounds_toArray, List.set_cons_zero, List.set_cons_succ])
  refine Draw.take_w (i := 6) (v := ?vv6) rfl (by kernel_rfl) (by kernel_rfl) (by kernel_rfl) (fun _ _ _ h => h) (by rfl) ?hy6 (by assumption) ?rest6
  case hy6 => ((intro w hSw); (try dsimp only at hSw); go_simp; (try with_reducible rfl))
  (try simp only [Act.put, List.setIfInBounds_toArray, List.set_cons_zero, List.set_cons_succ])
  refine Draw.take_w (i := 7) (v := ?vv7) rfl (by kernel_rfl) (by kernel_rfl) (by kernel_rfl) (fun _ _ _ h => h) (by rfl) ?hy7 (by assumption) ?rest7
  case hy7 => ((intro w hSw); (try dsimp only at hSw); go_simp; (try with_reducible rfl))
  (try simp only [Act.put, List.setIfInBounds_toArray, List.set_cons_zero, List.set_cons_succ])
  refine Draw.take_w (i := 8) (v := ?vv8) rfl (by kernel_rfl) (by kernel_rfl) (by kernel_rfl) (fun _ _ _ h => h) (by rfl) ?hy8 (by assumption) ?rest8
  case hy8 => ((intro w hSw); (try dsimp only at hSw); go_simp; (try with_reducible rfl))
  (try simp only [Act.put, List.setIfInBounds_toArray, List.set_cons_zero, List.set_cons_succ])
  refine Draw.take_w (i := 10) (v := ?vv9) rfl (by kernel_rfl) (by kernel_rfl) (by kernel_rfl) (fun _ _ _ h => h) (by rfl) ?hy9 (by assumption) ?rest9
  case hy9 => ((intro w hSw); (try dsimp only at hSw); go_simp; (try with_reducible rfl))
  (try simp only [Act.put, List.setIfInBounds_toArray, List.set_cons_zero, List.set_cons_succ])
  refine Draw.take_w (i := 11) (v := ?vv10) rfl (by kernel_rfl) (by kernel_rfl) (by kernel_rfl) (fun _ _ _ h => h) (by rfl) ?hy10 (by assumption) ?rest10
  case hy10 => ((intro w hSw); (try dsimp only at hSw); go_simp; (try with_reducible rfl))
  (try simp only [Act.put, List.setIfInBounds_toArray, List.set_cons_zero, List.set_cons_succ])
  refine Draw.take_w (i := 12) (v := ?vv11) rfl (by kernel_rfl) (by kernel_rfl) (by kernel_rfl) (fun _ _ _ h => h) (by rfl) ?hy11 (by assumption) ?rest11
  case hy11 => ((intro w hSw); (try dsimp only at hSw); go_simp; (try with_reducible rfl))
  (try simp only [Act.put, List.setIfInBounds_toArray, List.set_cons_zero, List.set_cons_succ])
  refine Draw.take_w (i := 13) (v := ?vv12) rfl (by kernel_rfl) (by kernel_rfl) (by kernel_rfl) (fun _ _ _ h => h) (by rfl) ?hy12 (by assumption) ?rest12
  case hy12 => ((intro w hSw); (try dsimp only at hSw); go_simp; (try with_reducible rfl))
  (try simp only [Act.put, List.setIfInBounds_toArray, List.set_cons_zero, List.set_cons_succ])
  refine Draw.take_w (i := 15) (v := ?vv13) rfl (by kernel_rfl) (by kernel_rfl) (by kernel_rfl) (fun _ _ _ h => h) (by rfl) ?hy13 (by assumption) ?rest13
  case hy13 => ((intro w hSw); (try dsimp only at hSw); go_simp; (try with_reducible rfl))
  (try simp only [Act.put, List.setIfInBounds_toArray, List.set_cons_zero, List.set_cons_succ])
  refine Draw.take_w (i := 16) (v := ?vv14) rfl (by kernel_rfl) (by kernel_rfl) (by kernel_rfl) (fun _ _ _ h => h) (by rfl) ?hy14 (by assumption) ?rest14
  case hy14 => ((intro w hSw); (try dsimp only at hSw); go_simp; (try with_reducible rfl))
  (try simp only [Act.put, List.setIfInBounds_toArray, List.set_cons_zero, List.set_cons_succ])
  refine Draw.take_w (i := 17) (v := ?vv15) rfl (by kernel_rfl) (by kernel_rfl) (by kernel_rfl) (fun _ _ _ h => h) (by rfl) ?hy15 (by assumption) ?rest15
  case hy15 => ((intro w hSw); (try dsimp only at hSw); go_simp; (try with_reducible rfl))
  (try simp only [Act.put, List.setIfInBounds_toArray, List.set_cons_zero, List.set_cons_succ])
  refine Draw.take_w (i := 18) (v := ?vv16) rfl (by kernel_rfl) (by kernel_rfl) (by kernel_rfl) (fun _ _ _ h => h) (by rfl) ?hy16 (by assumption) ?rest16
  case hy16 => ((intro w hSw); (try dsimp only at hSw); go_simp; (try with_reducible rfl))
  (try simp only [Act.put, List.setIfInBounds_toArray, List.set_cons_zero, List.set_cons_succ])
  refine Draw.take_w (i := 20) (v := ?vv17) rfl (by kernel_rfl) (by kernel_rfl) (by kernel_rfl) (fun _ _ _ h => h) (by rfl) ?hy17 (by assumption) ?rest17
  case hy17 => ((intro w hSw); (try dsimp only at hSw); go_simp; (try with_reducible rfl))
  (try simp only [Act.put, List.setIfInBounds_toArray, List.set_cons_zero, List.set_cons_succ])
  refine Draw.take_w (i := 21) (v := ?vv18) rfl (by kernel_rfl) (by kernel_rfl) (by kernel_rfl) (fun _ _ _ h => h) (by rfl) ?hy18 (by assumption) ?rest18
  case hy18 => ((intro w hSw); (try dsimp only at hSw); go_simp; (try with_reducible rfl))
  (try simp only [Act.put, List.setIfInBounds_toArray, List.set_cons_zero, List.set_cons_succ])
  refine Draw.take_w (i := 22) (v := ?vv19) rfl (by kernel_rfl) (by kernel_rfl) (by kernel_rfl) (fun _ _ _ h => h) (by rfl) ?hy19 (by assumption) ?rest19
  case hy19 => ((intro w hSw); (try dsimp only at hSw); go_simp; (try with_reducible rfl))
  (try simp only [Act.put, List.setIfInBounds_toArray, List.set_cons_zero, List.set_cons_succ])
  refine Draw.take_w (i := 23) (v := ?vv20) rfl (by kernel_rfl) (by kernel_rfl) (by kernel_rfl) (fun _ _ _ h => h) (by rfl) ?hy20 (by assumption) ?rest20
  case hy20 => ((intro w hSw); (try dsimp only at hSw); go_simp; (try with_reducible rfl))
  (try simp only [Act.put, List.setIfInBounds_toArray, List.set_cons_zero, List.set_cons_succ])
  refine Draw.call_d (i := 4) rfl (by kernel_rfl) (by rfl) (fun K hK => ?_)
  go_simp
  refine (H1.out _).mono ?_
  rintro e w2 ⟨rfl, b2⟩
  replace HA := Lib.hid (at_below HA.out b2)
  replace HC := Lib.hid (at_below HC.out b2)
  replace HB := Lib.hid (below_on HB.out b2)
  clear b2
  refine hK.out _ _ ?_ (fun hHeld => ?_)
  · (try dsimp only)
    exact ⟨⟨(at8 HA.out).1, (at8 HA.out).2.1, (at8 HA.out).2.2.1, (at8 HA.out).2.2.2.1, (at8 HA.out).2.2.2.2.1, (at8 HA.out).2.2.2.2.2.1, (at8 HA.out).2.2.2.2.2.2.1, (at8 HA.out).2.2.2.2.2.2.2.1⟩, ⟨(at8 HC.out).1, (at8 HC.out).2.1, (at8 HC.out).2.2.1, (at8 HC.out).2.2.2.1, (at8 HC.out).2.2.2.2.1, (at8 HC.out).2.2.2.2.2.1, (at8 HC.out).2.2.2.2.2.2.1, (at8 HC.out).2.2.2.2.2.2.2.1⟩⟩
  clear hK K
  (try simp only [Act.put, List.setIfInBounds_toArray, List.set_cons_zero, List.set_cons_succ])
  refine Draw.call_d (i := 9) rfl (by kernel_rfl) (by rfl) (fun K hK => ?_)
  go_simp
  refine (H2.out _).mono ?_
  rintro e w3 ⟨rfl, b2⟩
  replace HA := Lib.hid (at_below HA.out b2)
  replace HC := Lib.hid (at_below HC.out b2)
  replace HB := Lib.hid (below_on HB.out b2)
  clear b2
  refine hK.out _ _ ?_ (fun hHeld => ?_)
  · (try dsimp only)
    exact ⟨⟨(at8 HA.out).1, (at8 HA.out).2.1, (at8 HA.out).2.2.1, (at8 HA.out).2.2.2.1, (at8 HA.out).2.2.2.2.1, (at8 HA.out).2.2.2.2.2.1, (at8 HA.out).2.2.2.2.2.2.1, (at8 HA.out).2.2.2.2.2.2.2.1⟩, ⟨(at8 HC.out).1, (at8 HC.out).2.1, (at8 HC.out).2.2.1, (at8 HC.out).2.2.2.1, (at8 HC.out).2.2.2.2.1, (at8 HC.out).2.2.2.2.2.1, (at8 HC.out).2.2.2.2.2.2.1, (at8 HC.out).2.2.2.2.2.2.2.1⟩⟩
  clear hK K
  (try simp only [Act.put, List.setIfInBounds_toArray, List.set_cons_zero, List.set_cons_succ])
  refine Draw.call_d (i := 14) rfl (by kernel_rfl) (by rfl) (fun K hK => ?_)
  go_simp
  refine (H3.out _).mono ?_
  rintro e w4 ⟨rfl, b2⟩
  replace HA := Lib.hid (at_below HA.out b2)
  replace HC := Lib.hid (at_below HC.out b2)
  replace HB := Lib.hid (below_on HB.out b2)
  clear b2
  refine hK.out _ _ ?_ (fun hHeld => ?_)
  · (try dsimp only)
    exact ⟨⟨(at8 HA.out).1, (at8 HA.out).2.1, (at8 HA.out).2.2.1, (at8 HA.out).2.2.2.1, (at8 HA.out).2.2.2.2.1, (at8 HA.out).2.2.2.2.2.1, (at8 HA.out).2.2.2.2.2.2.1, (at8 HA.out).2.2.2.2.2.2.2.1⟩, ⟨(at8 HC.out).1, (at8 HC.out).2.1, (at8 HC.out).2.2.1, (at8 HC.out).2.2.2.1, (at8 HC.out).2.2.2.2.1, (at8 HC.out).2.2.2.2.2.1, (at8 HC.out).2.2.2.2.2.2.1, (at8 HC.out).2.2.2.2.2.2.2.1⟩⟩
  clear hK K
  (try simp only [Act.put, List.setIfInBounds_toArray, List.set_cons_zero, List.set_cons_succ])
  refine Draw.call_d (i := 19) rfl (by kernel_rfl) (by rfl) (fun K hK => ?_)
  go_simp
  refine (H4.out _).mono ?_
  rintro e w5 ⟨rfl, b2⟩
  replace HA := Lib.hid (at_below HA.out b2)
  replace HC := Lib.hid (at_below HC.out b2)
  replace HB := Lib.hid (below_on HB.out b2)
  clear b2
  refine hK.out _ _ ?_ (fun hHeld => ?_)
  · (try dsimp only)
    exact ⟨⟨(at8 HA.out).1, (at8 HA.out).2.1, (at8 HA.out).2.2.1, (at8 HA.out).2.2.2.1, (at8 HA.out).2.2.2.2.1, (at8 HA.out).2.2.2.2.2.1, (at8 HA.out).2.2.2.2.2.2.1, (at8 HA.out).2.2.2.2.2.2.2.1⟩, ⟨(at8 HC.out).1, (at8 HC.out).2.1, (at8 HC.out).2.2.1, (at8 HC.out).2.2.2.1, (at8 HC.out).2.2.2.2.1, (at8 HC.out).2.2.2.2.2.1, (at8 HC.out).2.2.2.2.2.2.1, (at8 HC.out).2.2.2.2.2.2.2.1⟩⟩
  clear hK K
  (try simp only [Act.put, List.setIfInBounds_toArray, List.set_cons_zero, List.set_cons_succ])
  refine Draw.call_d (i := 24) rfl (by kernel_rfl) (by rfl) (fun K hK => ?_)
  go_simp
  refine (H5.out _).mono ?_
  rintro e w6 ⟨rfl, b2⟩
  replace HA := Lib.hid (at_below HA.out b2)
  replace HC := Lib.hid (at_below HC.out b2)
  replace HB := Lib.hid (below_on HB.out b2)
  clear b2
  refine hK.out _ _ ?_ (fun hHeld => ?_)
  · (try dsimp only)
    exact ⟨⟨(at8 HA.out).1, (at8 HA.out).2.1, (at8 HA.out).2.2.1, (at8 HA.out).2.2.2.1, (at8 HA.out).2.2.2.2.1, (at8 HA.out).2.2.2.2.2.1, (at8 HA.out).2.2.2.2.2.2.1, (at8 HA.out).2.2.2.2.2.2.2.1⟩, ⟨(at8 HC.out).1, (at8 HC.out).2.1, (at8 HC.out).2.2.1, (at8 HC.out).2.2.2.1, (at8 HC.out).2.2.2.2.1, (at8 HC.out).2.2.2.2.2.1, (at8 HC.out).2.2.2.2.2.2.1, (at8 HC.out).2.2.2.2.2.2.2.1⟩⟩
  clear hK K
  (try simp only [Act.put, List.setIfInBounds_toArray, List.set_cons_zero, List.set_cons_succ])
  refine Draw.call_d (i := 25) rfl (by kernel_rfl) (by rfl) (fun K hK => ?_)
  go_simp
  have HO := Lib.hid (at_new w6 #[.int .i64 (cmpS ap al an cp cl cn), .int .i64 (cmpI ad cd), .int .i64 (cmpB ab cb), .int .i64 (cmpI af cf), .int .i64 (cmpI ax cx)] 3)
  have ho := Lib.hid (show ∀ i, i < 5 → (w6.alloc (.cells #[.int .i64 (cmpS ap al an cp cl cn), .int .i64 (cmpI ad cd), .int .i64 (cmpB ab cb), .int .i64 (cmpI af cf), .int .i64 (cmpI ax cx)] 3)).cell? ⟨w6.heap.size, i, none⟩ = some (.int .i64 (cmpV ap al an ad af ax ab cp cl cn cd cf cx cb i)) from fun i hi => by
    rw [HO.out.cell i]
    match i, hi with
    | 0, _ => rfl
    | 1, _ => rfl
    | 2, _ => rfl
    | 3, _ => rfl
    | 4, _ => rfl)
  replace HA := Lib.hid (at_alloc (o := .cells #[.int .i64 (cmpS ap al an cp cl cn), .int .i64 (cmpI ad cd), .int .i64 (cmpB ab cb), .int .i64 (cmpI af cf), .int .i64 (cmpI ax cx)] 3) HA.out)
  replace HC := Lib.hid (at_alloc (o := .cells #[.int .i64 (cmpS ap al an cp cl cn), .int .i64 (cmpI ad cd), .int .i64 (cmpB ab cb), .int .i64 (cmpI af cf), .int .i64 (cmpI ax cx)] 3) HC.out)
  replace HB := Lib.hid (below_al (o := .cells #[.int .i64 (cmpS ap al an cp cl cn), .int .i64 (cmpI ad cd), .int .i64 (cmpB ab cb), .int .i64 (cmpI af cf), .int .i64 (cmpI ax cx)] 3) HB.out)
  refine hK.out _ _ ?_ (fun hHeld => ?_)
  · (try dsimp only)
    exact ⟨⟨(at8 HA.out).1, (at8 HA.out).2.1, (at8 HA.out).2.2.1, (at8 HA.out).2.2.2.1, (at8 HA.out).2.2.2.2.1, (at8 HA.out).2.2.2.2.2.1, (at8 HA.out).2.2.2.2.2.2.1, (at8 HA.out).2.2.2.2.2.2.2.1⟩, ⟨(at8 HC.out).1, (at8 HC.out).2.1, (at8 HC.out).2.2.1, (at8 HC.out).2.2.2.1, (at8 HC.out).2.2.2.2.1, (at8 HC.out).2.2.2.2.2.1, (at8 HC.out).2.2.2.2.2.2.1, (at8 HC.out).2.2.2.2.2.2.2.1⟩⟩
  clear hK K
  (try simp only [Act.put, List.setIfInBounds_toArray, List.set_cons_zero, List.set_cons_succ])
  refine Draw.call_d (i := 26) rfl (by kernel_rfl) (by rfl) (fun K hK => ?_)
  go_simp
  refine (or_any _ _ _ ho.out).mono ?_
  rintro e w7 ⟨rfl, b2⟩
  replace HA := Lib.hid (at_below HA.out b2)
  replace HC := Lib.hid (at_below HC.out b2)
  replace HB := Lib.hid (below_on HB.out b2)
  clear b2
  refine hK.out _ _ ?_ (fun hHeld => ?_)
  · (try dsimp only)
    exact ⟨⟨(at8 HA.out).1, (at8 HA.out).2.1, (at8 HA.out).2.2.1, (at8 HA.out).2.2.2.1, (at8 HA.out).2.2.2.2.1, (at8 HA.out).2.2.2.2.2.1, (at8 HA.out).2.2.2.2.2.2.1, (at8 HA.out).2.2.2.2.2.2.2.1⟩, ⟨(at8 HC.out).1, (at8 HC.out).2.1, (at8 HC.out).2.2.1, (at8 HC.out).2.2.2.1, (at8 HC.out).2.2.2.2.1, (at8 HC.out).2.2.2.2.2.1, (at8 HC.out).2.2.2.2.2.2.1, (at8 HC.out).2.2.2.2.2.2.2.1⟩⟩
  clear hK K
  (try simp only [Act.put, List.setIfInBounds_toArray, List.set_cons_zero, List.set_cons_succ])
  refine Draw.take_w (i := 27) (v := ?vv21) rfl (by kernel_rfl) (by kernel_rfl) (by kernel_rfl) (fun _ _ _ h => h) (by rfl) ?hy21 (by assumption) ?rest21
  case hy21 => ((intro w hSw); (try dsimp only at hSw); go_simp; (try with_reducible rfl))
  (try simp only [Act.put, List.setIfInBounds_toArray, List.set_cons_zero, List.set_cons_succ])
  refine wpAnyH_done (by kernel_rfl) ?_ _
  go_wp2_with (fail)
  go_ret
  exact ⟨rfl, HB.out⟩
end Go.Proofs.Ytnbcbokdbenbiaa.Rec

/- The program's codec: New and Encode (own text; printed by wip/tools/gen_frameprog.py, a program of this session). -/
import Derived.Test.YtkddaedjgbakkaaFrameRef
import Derived.Test.YtkddaedjgbakkaaDraw
import Derived.Deep.Cut
namespace Go.Proofs.Ytkddaedjgbakkaa.Frame
open Go.Proofs.Ytkddaedjgbakkaa Go.RowKit Go.Proofs.Ytkddaedjgbakkaa.Mem Go.Proofs.Ytkddaedjgbakkaa.Sum Go.Proofs.Ytkddaedjgbakkaa.PFrameDecodes
open Go.Proofs.YtkddaedjgbakkaaW.PrintWords (bt rd)
set_option linter.unusedVariables false
set_option linter.unusedSimpArgs false
theorem pfour (n : Nat) (w : World) (h : n < 4294967296) : Calls Try.prog 14 #[.int .u32 (n : Int)] w fun e w' => e = .returned (.string (fourB n)) ∧ Below w.heap.size w w' := by
  refine frame_four.calls (n : Int) (fourB n) w ?_
  unfold frame_four.f
  have e0 : (n : Int) / 16777216 % 256 = ((n / 16777216 % 256 : Nat) : Int) := by omega
  have e1 : (n : Int) / 65536 % 256 = ((n / 65536 % 256 : Nat) : Int) := by omega
  have e2 : (n : Int) / 256 % 256 = ((n / 256 % 256 : Nat) : Int) := by omega
  have e3 : (n : Int) % 256 = ((n % 256 : Nat) : Int) := by omega
  rw [e0, e1, e2, e3, nums4]
  rfl
theorem pmay (k f t : Nat) (b : ByteArray) (w : World) : Calls Try.prog 13 #[.agg #[.int .u8 (k : Int), .int .u8 (f : Int), .int .u8 (t : Int), .string b]] w fun e w' => e = .returned (.bool (mayF k f t)) ∧ Below w.heap.size w w' := by
  refine frame_may.calls (k : Int) (f : Int) (t : Int) b (mayF k f t) w ?_
  unfold frame_may.f mayF
  by_cases h1 : 1 ≤ k
  · rw [if_pos (by omega)]
    by_cases h2 : k ≤ 14
    · rw [if_pos (by omega)]
      by_cases h3 : f ≤ 63
      · rw [if_pos (by omega)]
        congr 1
        by_cases h4 : t ≤ 63
        · rw [decide_eq_true (by omega), decide_eq_true (by omega)]
        · rw [decide_eq_false (by omega), decide_eq_false (by omega)]
      · rw [if_neg (by omega), decide_eq_false (by omega)]
    · rw [if_neg (by omega), decide_eq_false (by omega)]
  · rw [if_neg (by omega), decide_eq_false (by omega)]
theorem or_add (a b m : Nat) (hb : b < 2 ^ m) : a * 2 ^ m ||| b = a * 2 ^ m + b := by
  rw [Nat.mul_comm, ← Nat.two_pow_add_eq_or_of_lt hb]
theorem pnumber (s : ByteArray) (w : World) (h : 4 ≤ s.size) : Calls Try.prog 18 #[.string s] w fun e w' => e = .returned (.int .u32 (num4 s 0 : Nat)) ∧ Below w.heap.size w w' := by
  refine (frame_number.calls s (num4 s 0 : Nat) w ?_).mono (fun e w' hh => ⟨hh.1, ?_⟩)
  · unfold frame_number.f
    rw [if_pos (by omega), if_pos (by omega), if_pos (by omega), if_pos (by omega)]
    have h0 := by_lt s 0
    have h1 := by_lt s 1
    have h2 := by_lt s 2
    have h3 := by_lt s 3
    have g0 : bt s 0 = ((by' s 0 : Nat) : Int) := bt_by s 0
    have g1 : bt s 1 = ((by' s 1 : Nat) : Int) := bt_by s 1
    have g2 : bt s 2 = ((by' s 2 : Nat) : Int) := bt_by s 2
    have g3 : bt s 3 = ((by' s 3 : Nat) : Int) := bt_by s 3
    have hn : num4 s 0 = by' s 0 * 16777216 + by' s 1 * 65536 + by' s 2 * 256 + by' s 3 := rfl
    rw [g0, g1, g2, g3, hn]
    generalize by' s 0 = a at *
    generalize by' s 1 = b at *
    generalize by' s 2 = c at *
    generalize by' s 3 = d at *
    have e0 : (a : Int) % 4294967296 * 16777216 % 4294967296 = ((a * 16777216 : Nat) : Int) := by omega
    have e1 : (b : Int) % 4294967296 * 65536 % 4294967296 = ((b * 65536 : Nat) : Int) := by omega
    have e2 : (c : Int) % 4294967296 * 256 % 4294967296 = ((c * 256 : Nat) : Int) := by omega
    have e3 : (d : Int) % 4294967296 = ((d : Nat) : Int) := by omega
    have o1 : a * 16777216 ||| b * 65536 = a * 16777216 + b * 65536 := or_add a (b * 65536) 24 (by omega)
    have o2 : (a * 16777216 + b * 65536) ||| c * 256 = a * 16777216 + b * 65536 + c * 256 := by
      have := or_add (a * 256 + b) (c * 256) 16 (by omega)
      rw [show (a * 256 + b) * 2 ^ 16 = a * 16777216 + b * 65536 by omega] at this
      exact this
    have o3 : (a * 16777216 + b * 65536 + c * 256) ||| d = a * 16777216 + b * 65536 + c * 256 + d := by
      have := or_add (a * 65536 + b * 256 + c) d 8 (by omega)
      rw [show (a * 65536 + b * 256 + c) * 2 ^ 8 = a * 16777216 + b * 65536 + c * 256 by omega] at this
      exact this
    rw [e0, e1, e2, e3, u32_or_nat _ _ (by omega) (by omega), o1, u32_or_nat _ _ (by omega) (by omega), o2, u32_or_nat _ _ (by omega) (by omega), o3]
  · obtain ⟨_, n, rfl⟩ := hh
    exact below_dn (Below.refl _ _)
/-- A codec: its block, its table's. -/
structure Cod (w : World) (c tb : Nat) : Prop where
  a : At w c #[.pointer (some ⟨tb, 0, none⟩)] 42
  t : IsTab w tb
  n : c ≠ tb
theorem cod_below {w w' : World} {c tb : Nat} (h : Cod w c tb) (k : Below w.heap.size w w') : Cod w' c tb := ⟨at_below h.a k, is_below h.t k, h.n⟩
theorem cod_al {w : World} {c tb : Nat} {o : Obj} (h : Cod w c tb) : Cod (w.alloc o) c tb := cod_below h (below_al (Below.refl _ _))
theorem cod_dr {w : World} {c tb : Nat} (h : Cod w c tb) : Cod w.drew c tb := cod_below h (Below.drew (Below.refl _ _))
theorem cod_chg {w w' : World} {c tb : Nat} (h : Cod w c tb) (t : IsTab w' tb) (k : Chg (fun x => x = tb) w w') : Cod w' c tb := ⟨at_chg h.a k h.n, t, h.n⟩
theorem cod_far {w w' : World} {c tb x : Nat} (h : Cod w c tb) (k : Chg (fun y => y = x) w w') (h1 : c ≠ x) (h2 : tb ≠ x) : Cod w' c tb := ⟨at_chg h.a k h1, is_chg h.t k h2, h.n⟩
theorem fnew (w : World) : Calls Try.prog 7 #[] w fun e w' => ∃ c tb, e = .returned (.pointer (some ⟨c, 0, none⟩)) ∧ Cod w' c tb ∧ w.heap.size ≤ c ∧ w.heap.size ≤ tb ∧ c < w'.heap.size ∧ tb < w'.heap.size ∧ Below w.heap.size w w' := by
  go_enter Try.func7, Try.ntmps7
  go_wp2_with (fail)
  refine (new_any w).mono ?_
  rintro e w1 ⟨rfl, t1, b1, z1⟩
  go_wp2_with (fail)
  go_ret
  have z2 : w1.heap.size < (w1.alloc (.cells #[.pointer (some ⟨w.heap.size, 0, none⟩)] 42)).heap.size := by rw [World.size_alloc]; omega
  exact ⟨w1.heap.size, w.heap.size, rfl, ⟨at_new _ _ _, is_below (Or.inl t1) (below_al (Below.refl _ _)), by omega⟩, by omega, by omega, z2, by omega, below_al b1⟩
theorem row4 (w : World) (p q r s : Nat) (hp : p < 256) (hq : q < 256) (hr : r < 256) (hs : s < 256) : Row (w.alloc (.cells #[.int .u8 (p : Int), .int .u8 (q : Int), .int .u8 (r : Int), .int .u8 (s : Int)] 5)) w.heap.size 4 (b4 p q r s) := by
  have h := at_new w #[.int .u8 (p : Int), .int .u8 (q : Int), .int .u8 (r : Int), .int .u8 (s : Int)] 5
  refine ⟨fun i hi => ?_, fun i hi => h.free i, fun i => ?_, h.lt⟩
  · rw [h.cell i]
    match i, hi with
    | 0, _ => rfl
    | 1, _ => rfl
    | 2, _ => rfl
    | 3, _ => rfl
  · match i with
    | 0 => exact hp
    | 1 => exact hq
    | 2 => exact hr
    | i + 3 => exact hs
theorem row_al {w : World} {b n : Nat} {f : Nat → Nat} {o : Obj} (h : Row w b n f) : Row (w.alloc o) b n f := row_below h (below_al (Below.refl _ _))
theorem enc_no (c tb k f t : Nat) (b : ByteArray) (w : World) (hc : Cod w c tb) (hk : k < 256) (hf : f < 256) (ht : t < 256) (hb : b.size ≤ 999000) (hm : mayF k f t = false) :
    Calls Try.prog 8 #[.pointer (some ⟨c, 0, none⟩), .agg #[.int .u8 (k : Int), .int .u8 (f : Int), .int .u8 (t : Int), .string b]] w fun e w' => e = .returned (.tuple #[.string (encS k f t b), .int .i64 (encE k f t b)]) ∧ IsTab w' tb ∧ Chg (fun x => x = tb) w w' := by
  have c1 : decide ((1048576 : Int) < (b.size : Int)) = false := decide_eq_false (by omega)
  have es : encS k f t b = ⟨#[]⟩ := by unfold encS; rw [if_neg (by omega), if_pos hm]
  have ee : encE k f t b = 1 := by unfold encE; rw [if_neg (by omega), if_pos hm]
  have hy := fun w => pmay k f t b w
  rw [hm] at hy
  have HY := Lib.hid hy
  have HC := Lib.hid hc
  rw [es, ee]
  clear hy hm hc es ee
  go_enter Try.func8, Try.ntmps8
  go_wp2_with (fail)
  refine (HY.out _).mono ?_
  rintro e w1 ⟨rfl, b1⟩
  go_wp2_with (fail)
  go_ret2
  have hB := below_on (below_al (Below.refl w.heap.size w)) b1
  exact ⟨rfl, is_below HC.out.t hB, chg_below (chg_refl _ _) hB⟩
set_option maxRecDepth 100000 in
set_option maxHeartbeats 3200000 in
theorem enc_yes (c tb k f t : Nat) (b : ByteArray) (w : World) (hc : Cod w c tb) (hk : k < 256) (hf : f < 256) (ht : t < 256) (hb : b.size ≤ 999000) (hm : mayF k f t = true) :
    Calls Try.prog 8 #[.pointer (some ⟨c, 0, none⟩), .agg #[.int .u8 (k : Int), .int .u8 (f : Int), .int .u8 (t : Int), .string b]] w fun e w' => e = .returned (.tuple #[.string (encS k f t b), .int .i64 (encE k f t b)]) ∧ IsTab w' tb ∧ Chg (fun x => x = tb) w w' := by
  have c1 : decide ((1048576 : Int) < (b.size : Int)) = false := decide_eq_false (by omega)
  have es : encS k f t b = encB k f t b := by unfold encS; rw [if_neg (by omega), if_neg (by rw [hm]; simp)]
  have ee : encE k f t b = 0 := by unfold encE; rw [if_neg (by omega), if_neg (by rw [hm]; simp)]
  rw [es, ee]
  have hy := fun w => pmay k f t b w
  rw [hm] at hy
  have HY := Lib.hid hy
  have HC := Lib.hid hc
  have HF := Lib.hid (fun w => pfour b.size w (by omega))
  have hz := preB_size k f t b
  have hmo := more_lt (preB k f t b) (show 0 < 4294967296 by decide)
  have HS := Lib.hid (fun (W : World) (h : IsTab W tb) => sum_any tb (preB k f t b) W h (by omega))
  have HF2 := Lib.hid (fun w => pfour (more 0 (preB k f t b)) w hmo)
  have z3 := fourB_size (more 0 (preB k f t b))
  have he : encB k f t b = preB k f t b ++ fourB (more 0 (preB k f t b)) := rfl
  have hp : preB k f t b = headB k f t ++ fourB b.size ++ b := rfl
  have hpe := Lib.hid hp
  have hof : ofB 4 (b4 1 k f t) = headB k f t := rfl
  have HOF := Lib.hid hof
  clear hof
  have hrow := Lib.hid (fun w => row4 w 1 k f t (by decide) hk hf ht)
  have z0 := headB_size k f t
  have z1 := fourB_size b.size
  rw [he]
  clear hy hm hc es ee he hp
  generalize headB k f t = hd at *
  generalize fourB b.size = fo at *
  generalize more 0 (preB k f t b) = mo at *
  generalize preB k f t b = pr at *
  generalize fourB mo = fm at *
  have hw32 : IntKind.u32.wrap (b.size : Int) = (b.size : Int) := by simp [IntKind.wrap, IntKind.bits, IntKind.signed]; omega
  have q1 : (9223372036854775807 < hd.size + fo.size) = False := eq_false (by omega)
  have q2 : (9223372036854775807 < hd.size + fo.size + b.size) = False := eq_false (by omega)
  have q3 : (9223372036854775807 < pr.size + fm.size) = False := eq_false (by omega)
  have q4 : (9223372036854775807 < 4 + 4 + b.size) = False := eq_false (by omega)
  have q5 : (9223372036854775807 < 8 + b.size) = False := eq_false (by omega)
  have q6 : (9223372036854775807 < 8 + b.size + 4) = False := eq_false (by omega)
  go_enter Try.func8, Try.ntmps8
  go_wp2_with (fail)
  refine (HY.out _).mono ?_
  rintro e w1 ⟨rfl, b1⟩
  have HA := Lib.hid (at_below (at_new w #[.int .u8 (k : Int), .int .u8 (f : Int), .int .u8 (t : Int), .string b] 23) b1)
  have hB := below_on (below_al (o := .cells #[.int .u8 (k : Int), .int .u8 (f : Int), .int .u8 (t : Int), .string b] 23) (Below.refl w.heap.size w)) b1
  replace HC := Lib.hid (cod_below HC.out hB)
  have HG := Lib.hid (chg_below (chg_refl (fun x => x = tb) w) hB)
  clear b1 hB
  go_upto_region 7 with (fail)
  rename_i K hK0
  have HK : ∀ (b6 : Nat) (W : World), Hid (Cod W c tb) → Hid (Chg (fun x => x = tb) w W) → K { tmps := #[.pointer (some ⟨c, 0, none⟩), .agg #[.int .u8 (k : Int), .int .u8 (f : Int), .int .u8 (t : Int), .string b], undef, .pointer (some ⟨w.heap.size, 0, none⟩), .string ⟨#[]⟩, .int .i64 0, .string pr, .bool false, .pointer (some ⟨c, 0, none⟩), .bool false, .bool false, .pointer (some ⟨w.heap.size, 3, none⟩), .string b, .int .i64 (b.size : Int), .bool false, .bool false, .agg #[.int .u8 (k : Int), .int .u8 (f : Int), .int .u8 (t : Int), .string b], .bool true, .bool false, .pointer (some ⟨w.heap.size, 0, none⟩), .int .u8 (k : Int), .pointer (some ⟨w.heap.size, 1, none⟩), .int .u8 (f : Int), .pointer (some ⟨w.heap.size, 2, none⟩), .int .u8 (t : Int), .slice (some ⟨b6, 0, none⟩) 4 4, .string hd, .pointer (some ⟨w.heap.size, 3, none⟩), .string b, .int .i64 (b.size : Int), .int .u32 (b.size : Int), .string fo, .string (hd ++ fo), .pointer (some ⟨w.heap.size, 3, none⟩), .string b, .string pr, undef, undef, undef, undef, undef, undef, undef, undef, undef], defers := [] } W := by
    intro b6 W HC HG
    refine hK0 _ _ ?_
    have x0 := (at1 HC.out.a).1
    go_wp2_with (fail)
    refine (HS.out _ HC.out.t).mono ?_
    rintro e w2 ⟨rfl, t2, k2⟩
    have HT2 := Lib.hid (show IsTab w2 tb from Or.inr t2)
    have HG2 := Lib.hid (chg_then HG.out k2)
    clear t2 k2 x0
    go_wp2_with (fail)
    refine (HF2.out _).mono ?_
    rintro e w3 ⟨rfl, b3⟩
    go_wp2_with (fail)
    go_ret2
    exact ⟨rfl, is_below HT2.out b3, chg_below HG2.out b3⟩
  have HK1 := Lib.hid HK
  clear HK hK0
  replace HA := Lib.hid (at_drew HA.out)
  replace HC := Lib.hid (cod_dr HC.out)
  replace HG := Lib.hid (chg_drew HG.out)
  refine wp_region_held_drew (S := (fun W => W.cell? ⟨w.heap.size, 0, none⟩ = some (.int .u8 (k : Int)) ∧ W.cell? ⟨w.heap.size, 1, none⟩ = some (.int .u8 (f : Int)) ∧ W.cell? ⟨w.heap.size, 2, none⟩ = some (.int .u8 (t : Int)) ∧ W.cell? ⟨w.heap.size, 3, none⟩ = some (.string b))) (by kernel_rfl) ?_ (fun hHeld => ?_)
  · (try dsimp only)
    exact ⟨(at4 HA.out).1, (at4 HA.out).2.1, (at4 HA.out).2.2.1, (at4 HA.out).2.2.2.1⟩
  refine Draw.take_w (i := 0) (v := ?vv1) rfl (by kernel_rfl) (by kernel_rfl) (by kernel_rfl) (fun _ _ _ h => h) (by rfl) ?hy1 (by assumption) ?rest1
  case hy1 => ((intro w hSw); (try dsimp only at hSw); go_simp; (try with_reducible rfl))
  (try simp only [Act.put, List.setIfInBounds_toArray, List.set_cons_zero, List.set_cons_succ])
  refine Draw.take_w (i := 1) (v := ?vv2) rfl (by kernel_rfl) (by kernel_rfl) (by kernel_rfl) (fun _ _ _ h => h) (by rfl) ?hy2 (by assumption) ?rest2
  case hy2 => ((intro w hSw); (try dsimp only at hSw); go_simp; (try with_reducible rfl))
  (try simp only [Act.put, List.setIfInBounds_toArray, List.set_cons_zero, List.set_cons_succ])
  refine Draw.take_w (i := 2) (v := ?vv3) rfl (by kernel_rfl) (by kernel_rfl) (by kernel_rfl) (fun _ _ _ h => h) (by rfl) ?hy3 (by assumption) ?rest3
  case hy3 => ((intro w hSw); (try dsimp only at hSw); go_simp; (try with_reducible rfl))
  (try simp only [Act.put, List.setIfInBounds_toArray, List.set_cons_zero, List.set_cons_succ])
  refine Draw.take_w (i := 3) (v := ?vv4) rfl (by kernel_rfl) (by kernel_rfl) (by kernel_rfl) (fun _ _ _ h => h) (by rfl) ?hy4 (by assumption) ?rest4
  case hy4 => ((intro w hSw); (try dsimp only at hSw); go_simp; (try with_reducible rfl))
  (try simp only [Act.put, List.setIfInBounds_toArray, List.set_cons_zero, List.set_cons_succ])
  refine Draw.take_w (i := 4) (v := ?vv5) rfl (by kernel_rfl) (by kernel_rfl) (by kernel_rfl) (fun _ _ _ h => h) (by rfl) ?hy5 (by assumption) ?rest5
  case hy5 => ((intro w hSw); (try dsimp only at hSw); go_simp; (try with_reducible rfl))
  (try simp only [Act.put, List.setIfInBounds_toArray, List.set_cons_zero, List.set_cons_succ])
  refine Draw.take_w (i := 5) (v := ?vv6) rfl (by kernel_rfl) (by kernel_rfl) (by kernel_rfl) (fun _ _ _ h => h) (by rfl) ?hy6 (by assumption) ?rest6
  case hy6 => ((intro w hSw); (try dsimp only at hSw); go_simp; (try with_reducible rfl))
  (try simp only [Act.put, List.setIfInBounds_toArray, List.set_cons_zero, List.set_cons_succ])
  refine Draw.take_w (i := 8) (v := ?vv7) rfl (by kernel_rfl) (by kernel_rfl) (by kernel_rfl) (fun _ _ _ h => h) (by rfl) ?hy7 (by assumption) ?rest7
  case hy7 => ((intro w hSw); (try dsimp only at hSw); go_simp; (try with_reducible rfl))
  (try simp only [Act.put, List.setIfInBounds_toArray, List.set_cons_zero, List.set_cons_succ])
  refine Draw.take_w (i := 9) (v := ?vv8) rfl (by kernel_rfl) (by kernel_rfl) (by kernel_rfl) (fun _ _ _ h => h) (by rfl) ?hy8 (by assumption) ?rest8
  case hy8 => ((intro w hSw); (try dsimp only at hSw); go_simp; (try with_reducible rfl))
  (try simp only [Act.put, List.setIfInBounds_toArray, List.set_cons_zero, List.set_cons_succ])
  refine Draw.take_w (i := 10) (v := ?vv9) rfl (by kernel_rfl) (by kernel_rfl) (by kernel_rfl) (fun _ _ _ h => h) (by rfl) ?hy9 (by assumption) ?rest9
  case hy9 => ((intro w hSw); (try dsimp only at hSw); go_simp; (try with_reducible rfl))
  (try simp only [Act.put, List.setIfInBounds_toArray, List.set_cons_zero, List.set_cons_succ])
  refine Draw.take_w (i := 11) (v := ?vv10) rfl (by kernel_rfl) (by kernel_rfl) (by kernel_rfl) (fun _ _ _ h => h) (by rfl) ?hy10 (by assumption) ?rest10
  case hy10 => ((intro w hSw); (try dsimp only at hSw); go_simp; (try with_reducible rfl))
  (try simp only [Act.put, List.setIfInBounds_toArray, List.set_cons_zero, List.set_cons_succ])
  refine Draw.take_w (i := 14) (v := ?vv11) rfl (by kernel_rfl) (by kernel_rfl) (by kernel_rfl) (fun _ _ _ h => h) (by rfl) ?hy11 (by assumption) ?rest11
  case hy11 => ((intro w hSw); (try dsimp only at hSw); go_simp; (try with_reducible rfl))
  (try simp only [Act.put, List.setIfInBounds_toArray, List.set_cons_zero, List.set_cons_succ])
  refine Draw.take_w (i := 15) (v := ?vv12) rfl (by kernel_rfl) (by kernel_rfl) (by kernel_rfl) (fun _ _ _ h => h) (by rfl) ?hy12 (by assumption) ?rest12
  case hy12 => ((intro w hSw); (try dsimp only at hSw); go_simp; (try with_reducible rfl))
  (try simp only [Act.put, List.setIfInBounds_toArray, List.set_cons_zero, List.set_cons_succ])
  generalize w1.drew = W0 at *
  clear hHeld
  refine wpAnyH_ready (rs := [6, 12]) (by kernel_rfl) (by simp) (AllReadyH.cons (Draw.nth (i := 6) rfl) ?s0_6 (AllReadyH.cons (Draw.nth (i := 12) rfl) ?s0_12 (AllReadyH.nil)))
  case s0_6 =>
    intro K' hK'
    rw [if_pos (by rfl)]
    go_simp
    have hk2 := Lib.hid hK'.out
    have HR := Lib.hid (hrow.out W0)
    replace HA := Lib.hid (at_alloc (o := .cells #[.int .u8 1, .int .u8 (k : Int), .int .u8 (f : Int), .int .u8 (t : Int)] 5) HA.out)
    replace HC := Lib.hid (cod_al (o := .cells #[.int .u8 1, .int .u8 (k : Int), .int .u8 (f : Int), .int .u8 (t : Int)] 5) HC.out)
    replace HG := Lib.hid (chg_alloc (o := .cells #[.int .u8 1, .int .u8 (k : Int), .int .u8 (f : Int), .int .u8 (t : Int)] 5) HG.out)
    refine hk2.out _ _ ?_ (fun hHeld => ?_)
    · (try dsimp only)
      exact ⟨(at4 HA.out).1, (at4 HA.out).2.1, (at4 HA.out).2.2.1, (at4 HA.out).2.2.2.1⟩
    clear hK' hk2 K' hHeld
    (try simp only [Act.put, List.setIfInBounds_toArray, List.set_cons_zero, List.set_cons_succ])
    generalize W0.alloc (.cells #[.int .u8 1, .int .u8 (k : Int), .int .u8 (f : Int), .int .u8 (t : Int)] 5) = W1 at *
    generalize W0.heap.size = b6 at *
    refine wpAnyH_ready (rs := [7, 12]) (by kernel_rfl) (by simp) (AllReadyH.cons (Draw.nth (i := 7) rfl) ?s6_7 (AllReadyH.cons (Draw.nth (i := 12) rfl) ?s6_12 (AllReadyH.nil)))
    case s6_7 =>
      intro K' hK'
      rw [if_pos (by rfl)]
      have kv := row_conv (cap := 4) HR.out
      rw [HOF.out] at kv
      go_simp
      have hk2 := Lib.hid hK'.out
      refine hk2.out _ _ ?_ (fun hHeld => ?_)
      · (try dsimp only)
        exact ⟨(at4 HA.out).1, (at4 HA.out).2.1, (at4 HA.out).2.2.1, (at4 HA.out).2.2.2.1⟩
      clear hK' hk2 K' hHeld kv
      (try simp only [Act.put, List.setIfInBounds_toArray, List.set_cons_zero, List.set_cons_succ])
      refine wpAnyH_ready (rs := [12]) (by kernel_rfl) (by simp) (AllReadyH.cons (Draw.nth (i := 12) rfl) ?s67_12 (AllReadyH.nil))
      case s67_12 =>
        intro K' hK'
        rw [if_pos (by rfl)]
        go_simp
        refine (HF.out _).mono ?_
        rintro e W3 ⟨rfl, b2⟩
        have hk2 := Lib.hid hK'.out
        replace HA := Lib.hid (at_below HA.out b2)
        replace HC := Lib.hid (cod_below HC.out b2)
        replace HG := Lib.hid (chg_below HG.out b2)
        replace HR := Lib.hid (row_below HR.out b2)
        refine hk2.out _ _ ?_ (fun hHeld => ?_)
        · (try dsimp only)
          exact ⟨(at4 HA.out).1, (at4 HA.out).2.1, (at4 HA.out).2.2.1, (at4 HA.out).2.2.2.1⟩
        clear hK' hk2 K' hHeld b2
        (try simp only [Act.put, List.setIfInBounds_toArray, List.set_cons_zero, List.set_cons_succ])
        have hHeld : (fun W => W.cell? ⟨w.heap.size, 0, none⟩ = some (.int .u8 (k : Int)) ∧ W.cell? ⟨w.heap.size, 1, none⟩ = some (.int .u8 (f : Int)) ∧ W.cell? ⟨w.heap.size, 2, none⟩ = some (.int .u8 (t : Int)) ∧ W.cell? ⟨w.heap.size, 3, none⟩ = some (.string b)) W3 := by
          (try dsimp only)
          exact ⟨(at4 HA.out).1, (at4 HA.out).2.1, (at4 HA.out).2.2.1, (at4 HA.out).2.2.2.1⟩
        refine Draw.take_w (i := 13) (v := ?va6712) rfl (by kernel_rfl) (by kernel_rfl) (by kernel_rfl) (fun _ _ _ h => h) (by rfl) ?hya6712 (by assumption) ?resta6712
        case hya6712 => ((intro w hSw); (try dsimp only at hSw); go_simp; (try with_reducible rfl))
        (try simp only [Act.put, List.setIfInBounds_toArray, List.set_cons_zero, List.set_cons_succ])
        refine Draw.take_w (i := 16) (v := .string pr) rfl (by kernel_rfl) (by kernel_rfl) (by kernel_rfl) (fun _ _ _ h => h) (by rfl) ?hyb6712 (by assumption) ?restb6712
        case hyb6712 => ((intro w hSw); (try dsimp only at hSw); rw [hpe.out]; go_simp; (try with_reducible rfl))
        (try simp only [Act.put, List.setIfInBounds_toArray, List.set_cons_zero, List.set_cons_succ])
        refine Draw.take_w (i := 17) (v := ?vc6712) rfl (by kernel_rfl) (by kernel_rfl) (by kernel_rfl) (fun _ _ _ h => h) (by rfl) ?hyc6712 (by assumption) ?restc6712
        case hyc6712 => ((intro w hSw); (try dsimp only at hSw); go_simp; (try with_reducible rfl))
        (try simp only [Act.put, List.setIfInBounds_toArray, List.set_cons_zero, List.set_cons_succ])
        refine wpAnyH_done (by kernel_rfl) ?_ _
        exact HK1.out b6 _ HC HG
    case s6_12 =>
      intro K' hK'
      rw [if_pos (by rfl)]
      go_simp
      refine (HF.out _).mono ?_
      rintro e W2 ⟨rfl, b2⟩
      have hk2 := Lib.hid hK'.out
      replace HA := Lib.hid (at_below HA.out b2)
      replace HC := Lib.hid (cod_below HC.out b2)
      replace HG := Lib.hid (chg_below HG.out b2)
      replace HR := Lib.hid (row_below HR.out b2)
      refine hk2.out _ _ ?_ (fun hHeld => ?_)
      · (try dsimp only)
        exact ⟨(at4 HA.out).1, (at4 HA.out).2.1, (at4 HA.out).2.2.1, (at4 HA.out).2.2.2.1⟩
      clear hK' hk2 K' hHeld b2
      (try simp only [Act.put, List.setIfInBounds_toArray, List.set_cons_zero, List.set_cons_succ])
      refine wpAnyH_ready (rs := [7]) (by kernel_rfl) (by simp) (AllReadyH.cons (Draw.nth (i := 7) rfl) ?s612_7 (AllReadyH.nil))
      case s612_7 =>
        intro K' hK'
        rw [if_pos (by rfl)]
        have kv := row_conv (cap := 4) HR.out
        rw [HOF.out] at kv
        go_simp
        have hk2 := Lib.hid hK'.out
        refine hk2.out _ _ ?_ (fun hHeld => ?_)
        · (try dsimp only)
          exact ⟨(at4 HA.out).1, (at4 HA.out).2.1, (at4 HA.out).2.2.1, (at4 HA.out).2.2.2.1⟩
        clear hK' hk2 K' hHeld kv
        (try simp only [Act.put, List.setIfInBounds_toArray, List.set_cons_zero, List.set_cons_succ])
        have hHeld : (fun W => W.cell? ⟨w.heap.size, 0, none⟩ = some (.int .u8 (k : Int)) ∧ W.cell? ⟨w.heap.size, 1, none⟩ = some (.int .u8 (f : Int)) ∧ W.cell? ⟨w.heap.size, 2, none⟩ = some (.int .u8 (t : Int)) ∧ W.cell? ⟨w.heap.size, 3, none⟩ = some (.string b)) W2 := by
          (try dsimp only)
          exact ⟨(at4 HA.out).1, (at4 HA.out).2.1, (at4 HA.out).2.2.1, (at4 HA.out).2.2.2.1⟩
        refine Draw.take_w (i := 13) (v := ?va6127) rfl (by kernel_rfl) (by kernel_rfl) (by kernel_rfl) (fun _ _ _ h => h) (by rfl) ?hya6127 (by assumption) ?resta6127
        case hya6127 => ((intro w hSw); (try dsimp only at hSw); go_simp; (try with_reducible rfl))
        (try simp only [Act.put, List.setIfInBounds_toArray, List.set_cons_zero, List.set_cons_succ])
        refine Draw.take_w (i := 16) (v := .string pr) rfl (by kernel_rfl) (by kernel_rfl) (by kernel_rfl) (fun _ _ _ h => h) (by rfl) ?hyb6127 (by assumption) ?restb6127
        case hyb6127 => ((intro w hSw); (try dsimp only at hSw); rw [hpe.out]; go_simp; (try with_reducible rfl))
        (try simp only [Act.put, List.setIfInBounds_toArray, List.set_cons_zero, List.set_cons_succ])
        refine Draw.take_w (i := 17) (v := ?vc6127) rfl (by kernel_rfl) (by kernel_rfl) (by kernel_rfl) (fun _ _ _ h => h) (by rfl) ?hyc6127 (by assumption) ?restc6127
        case hyc6127 => ((intro w hSw); (try dsimp only at hSw); go_simp; (try with_reducible rfl))
        (try simp only [Act.put, List.setIfInBounds_toArray, List.set_cons_zero, List.set_cons_succ])
        refine wpAnyH_done (by kernel_rfl) ?_ _
        exact HK1.out b6 _ HC HG
  case s0_12 =>
    intro K' hK'
    rw [if_pos (by rfl)]
    go_simp
    refine (HF.out _).mono ?_
    rintro e W1 ⟨rfl, b2⟩
    have hk2 := Lib.hid hK'.out
    replace HA := Lib.hid (at_below HA.out b2)
    replace HC := Lib.hid (cod_below HC.out b2)
    replace HG := Lib.hid (chg_below HG.out b2)
    refine hk2.out _ _ ?_ (fun hHeld => ?_)
    · (try dsimp only)
      exact ⟨(at4 HA.out).1, (at4 HA.out).2.1, (at4 HA.out).2.2.1, (at4 HA.out).2.2.2.1⟩
    clear hK' hk2 K' hHeld b2
    (try simp only [Act.put, List.setIfInBounds_toArray, List.set_cons_zero, List.set_cons_succ])
    refine wpAnyH_ready (rs := [6]) (by kernel_rfl) (by simp) (AllReadyH.cons (Draw.nth (i := 6) rfl) ?s12_6 (AllReadyH.nil))
    case s12_6 =>
      intro K' hK'
      rw [if_pos (by rfl)]
      go_simp
      have hk2 := Lib.hid hK'.out
      have HR := Lib.hid (hrow.out W1)
      replace HA := Lib.hid (at_alloc (o := .cells #[.int .u8 1, .int .u8 (k : Int), .int .u8 (f : Int), .int .u8 (t : Int)] 5) HA.out)
      replace HC := Lib.hid (cod_al (o := .cells #[.int .u8 1, .int .u8 (k : Int), .int .u8 (f : Int), .int .u8 (t : Int)] 5) HC.out)
      replace HG := Lib.hid (chg_alloc (o := .cells #[.int .u8 1, .int .u8 (k : Int), .int .u8 (f : Int), .int .u8 (t : Int)] 5) HG.out)
      refine hk2.out _ _ ?_ (fun hHeld => ?_)
      · (try dsimp only)
        exact ⟨(at4 HA.out).1, (at4 HA.out).2.1, (at4 HA.out).2.2.1, (at4 HA.out).2.2.2.1⟩
      clear hK' hk2 K' hHeld
      (try simp only [Act.put, List.setIfInBounds_toArray, List.set_cons_zero, List.set_cons_succ])
      generalize W1.alloc (.cells #[.int .u8 1, .int .u8 (k : Int), .int .u8 (f : Int), .int .u8 (t : Int)] 5) = W2 at *
      generalize W1.heap.size = b6 at *
      refine wpAnyH_ready (rs := [7]) (by kernel_rfl) (by simp) (AllReadyH.cons (Draw.nth (i := 7) rfl) ?s126_7 (AllReadyH.nil))
      case s126_7 =>
        intro K' hK'
        rw [if_pos (by rfl)]
        have kv := row_conv (cap := 4) HR.out
        rw [HOF.out] at kv
        go_simp
        have hk2 := Lib.hid hK'.out
        refine hk2.out _ _ ?_ (fun hHeld => ?_)
        · (try dsimp only)
          exact ⟨(at4 HA.out).1, (at4 HA.out).2.1, (at4 HA.out).2.2.1, (at4 HA.out).2.2.2.1⟩
        clear hK' hk2 K' hHeld kv
        (try simp only [Act.put, List.setIfInBounds_toArray, List.set_cons_zero, List.set_cons_succ])
        have hHeld : (fun W => W.cell? ⟨w.heap.size, 0, none⟩ = some (.int .u8 (k : Int)) ∧ W.cell? ⟨w.heap.size, 1, none⟩ = some (.int .u8 (f : Int)) ∧ W.cell? ⟨w.heap.size, 2, none⟩ = some (.int .u8 (t : Int)) ∧ W.cell? ⟨w.heap.size, 3, none⟩ = some (.string b)) W2 := by
          (try dsimp only)
          exact ⟨(at4 HA.out).1, (at4 HA.out).2.1, (at4 HA.out).2.2.1, (at4 HA.out).2.2.2.1⟩
        refine Draw.take_w (i := 13) (v := ?va1267) rfl (by kernel_rfl) (by kernel_rfl) (by kernel_rfl) (fun _ _ _ h => h) (by rfl) ?hya1267 (by assumption) ?resta1267
        case hya1267 => ((intro w hSw); (try dsimp only at hSw); go_simp; (try with_reducible rfl))
        (try simp only [Act.put, List.setIfInBounds_toArray, List.set_cons_zero, List.set_cons_succ])
        refine Draw.take_w (i := 16) (v := .string pr) rfl (by kernel_rfl) (by kernel_rfl) (by kernel_rfl) (fun _ _ _ h => h) (by rfl) ?hyb1267 (by assumption) ?restb1267
        case hyb1267 => ((intro w hSw); (try dsimp only at hSw); rw [hpe.out]; go_simp; (try with_reducible rfl))
        (try simp only [Act.put, List.setIfInBounds_toArray, List.set_cons_zero, List.set_cons_succ])
        refine Draw.take_w (i := 17) (v := ?vc1267) rfl (by kernel_rfl) (by kernel_rfl) (by kernel_rfl) (fun _ _ _ h => h) (by rfl) ?hyc1267 (by assumption) ?restc1267
        case hyc1267 => ((intro w hSw); (try dsimp only at hSw); go_simp; (try with_reducible rfl))
        (try simp only [Act.put, List.setIfInBounds_toArray, List.set_cons_zero, List.set_cons_succ])
        refine wpAnyH_done (by kernel_rfl) ?_ _
        exact HK1.out b6 _ HC HG
end Go.Proofs.Ytkddaedjgbakkaa.Frame

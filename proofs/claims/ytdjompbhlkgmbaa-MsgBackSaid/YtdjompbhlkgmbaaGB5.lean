/- What the row needs, laid together out of FrameProg, Sets, FrameDec, FrameRefD, MsgPut (own texts and texts printed for this seat; wip/tools/group.py). -/
import Derived.Test.YtdjompbhlkgmbaaGB3
import Derived.Test.YtdjompbhlkgmbaaGB4
import Derived.Deep.Cut
import Derived.Handy
section
/- The program's codec: New and Encode (own text; printed by wip/tools/gen_frameprog.py, a program of this session). -/
namespace Go.Proofs.Ytdjompbhlkgmbaa.Frame
open Go.Proofs.Ytdjompbhlkgmbaa Go.RowKit Go.Proofs.Ytdjompbhlkgmbaa.Mem Go.Proofs.Ytdjompbhlkgmbaa.Sum Go.Proofs.Ytdjompbhlkgmbaa.PFrameDecodes
open Go.Proofs.YtdjompbhlkgmbaaW.PrintWords (bt rd)
set_option linter.unusedVariables false
set_option linter.unusedSimpArgs false
theorem pfour (n : Nat) (w : World) (h : n < 4294967296) : Calls Try.prog 65 #[.int .u32 (n : Int)] w fun e w' => e = .returned (.string (fourB n)) ∧ Below w.heap.size w w' := by
  refine frame_four.calls (n : Int) (fourB n) w ?_
  unfold frame_four.f
  have e0 : (n : Int) / 16777216 % 256 = ((n / 16777216 % 256 : Nat) : Int) := by omega
  have e1 : (n : Int) / 65536 % 256 = ((n / 65536 % 256 : Nat) : Int) := by omega
  have e2 : (n : Int) / 256 % 256 = ((n / 256 % 256 : Nat) : Int) := by omega
  have e3 : (n : Int) % 256 = ((n % 256 : Nat) : Int) := by omega
  rw [e0, e1, e2, e3, nums4]
  rfl
theorem pmay (k f t : Nat) (b : ByteArray) (w : World) : Calls Try.prog 64 #[.agg #[.int .u8 (k : Int), .int .u8 (f : Int), .int .u8 (t : Int), .string b]] w fun e w' => e = .returned (.bool (mayF k f t)) ∧ Below w.heap.size w w' := by
  refine frame_may.calls (k : Int) (f : Int) (t : Int) b (mayF k f t) w ?_
  unfold frame_may.f mayF
  by_cases h1 : 1 ≤ k
  · rw [if_pos (by omega)]
    by_cases h2 : k ≤ 14
    · rw [if_pos (by omega)]
      by_cases h3 : f ≤ 63
      · rw [if_pos (by omega)]
        congr 1
        by_cases h4 : t ≤ 63
        · rw [decide_eq_true (by omega), decide_eq_true (by omega)]
        · rw [decide_eq_false (by omega), decide_eq_false (by omega)]
      · rw [if_neg (by omega), decide_eq_false (by omega)]
    · rw [if_neg (by omega), decide_eq_false (by omega)]
  · rw [if_neg (by omega), decide_eq_false (by omega)]
theorem or_add (a b m : Nat) (hb : b < 2 ^ m) : a * 2 ^ m ||| b = a * 2 ^ m + b := by
  rw [Nat.mul_comm, ← Nat.two_pow_add_eq_or_of_lt hb]
theorem pnumber (s : ByteArray) (w : World) (h : 4 ≤ s.size) : Calls Try.prog 72 #[.string s] w fun e w' => e = .returned (.int .u32 (num4 s 0 : Nat)) ∧ Below w.heap.size w w' := by
  refine (frame_number.calls s (num4 s 0 : Nat) w ?_).mono (fun e w' hh => ⟨hh.1, ?_⟩)
  · unfold frame_number.f
    rw [if_pos (by omega), if_pos (by omega), if_pos (by omega), if_pos (by omega)]
    have h0 := by_lt s 0
    have h1 := by_lt s 1
    have h2 := by_lt s 2
    have h3 := by_lt s 3
    have g0 : bt s 0 = ((by' s 0 : Nat) : Int) := bt_by s 0
    have g1 : bt s 1 = ((by' s 1 : Nat) : Int) := bt_by s 1
    have g2 : bt s 2 = ((by' s 2 : Nat) : Int) := bt_by s 2
    have g3 : bt s 3 = ((by' s 3 : Nat) : Int) := bt_by s 3
    have hn : num4 s 0 = by' s 0 * 16777216 + by' s 1 * 65536 + by' s 2 * 256 + by' s 3 := rfl
    rw [g0, g1, g2, g3, hn]
    generalize by' s 0 = a at *
    generalize by' s 1 = b at *
    generalize by' s 2 = c at *
    generalize by' s 3 = d at *
    have e0 : (a : Int) % 4294967296 * 16777216 % 4294967296 = ((a * 16777216 : Nat) : Int) := by omega
    have e1 : (b : Int) % 4294967296 * 65536 % 4294967296 = ((b * 65536 : Nat) : Int) := by omega
    have e2 : (c : Int) % 4294967296 * 256 % 4294967296 = ((c * 256 : Nat) : Int) := by omega
    have e3 : (d : Int) % 4294967296 = ((d : Nat) : Int) := by omega
    have o1 : a * 16777216 ||| b * 65536 = a * 16777216 + b * 65536 := or_add a (b * 65536) 24 (by omega)
    have o2 : (a * 16777216 + b * 65536) ||| c * 256 = a * 16777216 + b * 65536 + c * 256 := by
      have := or_add (a * 256 + b) (c * 256) 16 (by omega)
      rw [show (a * 256 + b) * 2 ^ 16 = a * 16777216 + b * 65536 by omega] at this
      exact this
    have o3 : (a * 16777216 + b * 65536 + c * 256) ||| d = a * 16777216 + b * 65536 + c * 256 + d := by
      have := or_add (a * 65536 + b * 256 + c) d 8 (by omega)
      rw [show (a * 65536 + b * 256 + c) * 2 ^ 8 = a * 16777216 + b * 65536 + c * 256 by omega] at this
      exact this
    rw [e0, e1, e2, e3, u32_or_nat _ _ (by omega) (by omega), o1, u32_or_nat _ _ (by omega) (by omega), o2, u32_or_nat _ _ (by omega) (by omega), o3]
  · obtain ⟨_, n, rfl⟩ := hh
    exact below_dn (Below.refl _ _)
/-- A codec: its block, its table's. -/
structure Cod (w : World) (c tb : Nat) : Prop where
  a : At w c #[.pointer (some ⟨tb, 0, none⟩)] 123
  t : IsTab w tb
  n : c ≠ tb
theorem cod_below {w w' : World} {c tb : Nat} (h : Cod w c tb) (k : Below w.heap.size w w') : Cod w' c tb := ⟨at_below h.a k, is_below h.t k, h.n⟩
theorem cod_al {w : World} {c tb : Nat} {o : Obj} (h : Cod w c tb) : Cod (w.alloc o) c tb := cod_below h (below_al (Below.refl _ _))
theorem cod_dr {w : World} {c tb : Nat} (h : Cod w c tb) : Cod w.drew c tb := cod_below h (Below.drew (Below.refl _ _))
theorem cod_chg {w w' : World} {c tb : Nat} (h : Cod w c tb) (t : IsTab w' tb) (k : Chg (fun x => x = tb) w w') : Cod w' c tb := ⟨at_chg h.a k h.n, t, h.n⟩
theorem cod_far {w w' : World} {c tb x : Nat} (h : Cod w c tb) (k : Chg (fun y => y = x) w w') (h1 : c ≠ x) (h2 : tb ≠ x) : Cod w' c tb := ⟨at_chg h.a k h1, is_chg h.t k h2, h.n⟩
theorem fnew (w : World) : Calls Try.prog 17 #[] w fun e w' => ∃ c tb, e = .returned (.pointer (some ⟨c, 0, none⟩)) ∧ Cod w' c tb ∧ w.heap.size ≤ c ∧ w.heap.size ≤ tb ∧ c < w'.heap.size ∧ tb < w'.heap.size ∧ Below w.heap.size w w' := by
  go_enter Try.func17, Try.ntmps17
  go_wp2_with (fail)
  refine (new_any w).mono ?_
  rintro e w1 ⟨rfl, t1, b1, z1⟩
  go_wp2_with (fail)
  go_ret
  have z2 : w1.heap.size < (w1.alloc (.cells #[.pointer (some ⟨w.heap.size, 0, none⟩)] 123)).heap.size := by rw [World.size_alloc]; omega
  exact ⟨w1.heap.size, w.heap.size, rfl, ⟨at_new _ _ _, is_below (Or.inl t1) (below_al (Below.refl _ _)), by omega⟩, by omega, by omega, z2, by omega, below_al b1⟩
theorem row4 (w : World) (p q r s : Nat) (hp : p < 256) (hq : q < 256) (hr : r < 256) (hs : s < 256) : Row (w.alloc (.cells #[.int .u8 (p : Int), .int .u8 (q : Int), .int .u8 (r : Int), .int .u8 (s : Int)] 5)) w.heap.size 4 (b4 p q r s) := by
  have h := at_new w #[.int .u8 (p : Int), .int .u8 (q : Int), .int .u8 (r : Int), .int .u8 (s : Int)] 5
  refine ⟨fun i hi => ?_, fun i hi => h.free i, fun i => ?_, h.lt⟩
  · rw [h.cell i]
    match i, hi with
    | 0, _ => rfl
    | 1, _ => rfl
    | 2, _ => rfl
    | 3, _ => rfl
  · match i with
    | 0 => exact hp
    | 1 => exact hq
    | 2 => exact hr
    | i + 3 => exact hs
theorem enc_no (c tb k f t : Nat) (b : ByteArray) (w : World) (hc : Cod w c tb) (hk : k < 256) (hf : f < 256) (ht : t < 256) (hb : b.size ≤ 999000) (hm : mayF k f t = false) :
    Calls Try.prog 23 #[.pointer (some ⟨c, 0, none⟩), .agg #[.int .u8 (k : Int), .int .u8 (f : Int), .int .u8 (t : Int), .string b]] w fun e w' => e = .returned (.tuple #[.string (encS k f t b), .int .i64 (encE k f t b)]) ∧ IsTab w' tb ∧ Chg (fun x => x = tb) w w' := by
  have c1 : decide ((1048576 : Int) < (b.size : Int)) = false := decide_eq_false (by omega)
  have es : encS k f t b = ⟨#[]⟩ := by unfold encS; rw [if_neg (by omega), if_pos hm]
  have ee : encE k f t b = 1 := by unfold encE; rw [if_neg (by omega), if_pos hm]
  have hy := fun w => pmay k f t b w
  rw [hm] at hy
  have HY := Lib.hid hy
  have HC := Lib.hid hc
  rw [es, ee]
  clear hy hm hc es ee
  go_enter Try.func23, Try.ntmps23
  go_wp2_with (fail)
  refine (HY.out _).mono ?_
  rintro e w1 ⟨rfl, b1⟩
  go_wp2_with (fail)
  go_ret2
  have hB := below_on (below_al (Below.refl w.heap.size w)) b1
  exact ⟨rfl, is_below HC.out.t hB, chg_below (chg_refl _ _) hB⟩
set_option maxRecDepth 100000 in
set_option maxHeartbeats 3200000 in
theorem enc_yes (c tb k f t : Nat) (b : ByteArray) (w : World) (hc : Cod w c tb) (hk : k < 256) (hf : f < 256) (ht : t < 256) (hb : b.size ≤ 999000) (hm : mayF k f t = true) :
    Calls Try.prog 23 #[.pointer (some ⟨c, 0, none⟩), .agg #[.int .u8 (k : Int), .int .u8 (f : Int), .int .u8 (t : Int), .string b]] w fun e w' => e = .returned (.tuple #[.string (encS k f t b), .int .i64 (encE k f t b)]) ∧ IsTab w' tb ∧ Chg (fun x => x = tb) w w' := by
  have c1 : decide ((1048576 : Int) < (b.size : Int)) = false := decide_eq_false (by omega)
  have es : encS k f t b = encB k f t b := by unfold encS; rw [if_neg (by omega), if_neg (by rw [hm]; simp)]
  have ee : encE k f t b = 0 := by unfold encE; rw [if_neg (by omega), if_neg (by rw [hm]; simp)]
  rw [es, ee]
  have hy := fun w => pmay k f t b w
  rw [hm] at hy
  have HY := Lib.hid hy
  have HC := Lib.hid hc
  have HF := Lib.hid (fun w => pfour b.size w (by omega))
  have hz := preB_size k f t b
  have hmo := more_lt (preB k f t b) (show 0 < 4294967296 by decide)
  have HS := Lib.hid (fun (W : World) (h : IsTab W tb) => sum_any tb (preB k f t b) W h (by omega))
  have HF2 := Lib.hid (fun w => pfour (more 0 (preB k f t b)) w hmo)
  have z3 := fourB_size (more 0 (preB k f t b))
  have he : encB k f t b = preB k f t b ++ fourB (more 0 (preB k f t b)) := rfl
  have hp : preB k f t b = headB k f t ++ fourB b.size ++ b := rfl
  have hpe := Lib.hid hp
  have hof : ofB 4 (b4 1 k f t) = headB k f t := rfl
  have HOF := Lib.hid hof
  clear hof
  have hrow := Lib.hid (fun w => row4 w 1 k f t (by decide) hk hf ht)
  have z0 := headB_size k f t
  have z1 := fourB_size b.size
  rw [he]
  clear hy hm hc es ee he hp
  generalize headB k f t = hd at *
  generalize fourB b.size = fo at *
  generalize more 0 (preB k f t b) = mo at *
  generalize preB k f t b = pr at *
  generalize fourB mo = fm at *
  have hw32 : IntKind.u32.wrap (b.size : Int) = (b.size : Int) := by simp [IntKind.wrap, IntKind.bits, IntKind.signed]; omega
  have q1 : (9223372036854775807 < hd.size + fo.size) = False := eq_false (by omega)
  have q2 : (9223372036854775807 < hd.size + fo.size + b.size) = False := eq_false (by omega)
  have q3 : (9223372036854775807 < pr.size + fm.size) = False := eq_false (by omega)
  have q4 : (9223372036854775807 < 4 + 4 + b.size) = False := eq_false (by omega)
  have q5 : (9223372036854775807 < 8 + b.size) = False := eq_false (by omega)
  have q6 : (9223372036854775807 < 8 + b.size + 4) = False := eq_false (by omega)
  go_enter Try.func23, Try.ntmps23
  go_wp2_with (fail)
  refine (HY.out _).mono ?_
  rintro e w1 ⟨rfl, b1⟩
  have HA := Lib.hid (at_below (at_new w #[.int .u8 (k : Int), .int .u8 (f : Int), .int .u8 (t : Int), .string b] 46) b1)
  have hB := below_on (below_al (o := .cells #[.int .u8 (k : Int), .int .u8 (f : Int), .int .u8 (t : Int), .string b] 46) (Below.refl w.heap.size w)) b1
  replace HC := Lib.hid (cod_below HC.out hB)
  have HG := Lib.hid (chg_below (chg_refl (fun x => x = tb) w) hB)
  clear b1 hB
  go_upto_region 7 with (fail)
  rename_i K hK0
  have HK : ∀ (b6 : Nat) (W : World), Hid (Cod W c tb) → Hid (Chg (fun x => x = tb) w W) → K { tmps := #[.pointer (some ⟨c, 0, none⟩), .agg #[.int .u8 (k : Int), .int .u8 (f : Int), .int .u8 (t : Int), .string b], undef, .pointer (some ⟨w.heap.size, 0, none⟩), .string ⟨#[]⟩, .int .i64 0, .string pr, .bool false, .pointer (some ⟨c, 0, none⟩), .bool false, .bool false, .pointer (some ⟨w.heap.size, 3, none⟩), .string b, .int .i64 (b.size : Int), .bool false, .bool false, .agg #[.int .u8 (k : Int), .int .u8 (f : Int), .int .u8 (t : Int), .string b], .bool true, .bool false, .pointer (some ⟨w.heap.size, 0, none⟩), .int .u8 (k : Int), .pointer (some ⟨w.heap.size, 1, none⟩), .int .u8 (f : Int), .pointer (some ⟨w.heap.size, 2, none⟩), .int .u8 (t : Int), .slice (some ⟨b6, 0, none⟩) 4 4, .string hd, .pointer (some ⟨w.heap.size, 3, none⟩), .string b, .int .i64 (b.size : Int), .int .u32 (b.size : Int), .string fo, .string (hd ++ fo), .pointer (some ⟨w.heap.size, 3, none⟩), .string b, .string pr, undef, undef, undef, undef, undef, undef, undef, undef, undef], defers := [] } W := by
    intro b6 W HC HG
    refine hK0 _ _ ?_
    have x0 := (at1 HC.out.a).1
    go_wp2_with (fail)
    refine (HS.out _ HC.out.t).mono ?_
    rintro e w2 ⟨rfl, t2, k2⟩
    have HT2 := Lib.hid (show IsTab w2 tb from Or.inr t2)
    have HG2 := Lib.hid (chg_then HG.out k2)
    clear t2 k2 x0
    go_wp2_with (fail)
    refine (HF2.out _).mono ?_
    rintro e w3 ⟨rfl, b3⟩
    go_wp2_with (fail)
    go_ret2
    exact ⟨rfl, is_below HT2.out b3, chg_below HG2.out b3⟩
  have HK1 := Lib.hid HK
  clear HK hK0
  replace HA := Lib.hid (at_drew HA.out)
  replace HC := Lib.hid (cod_dr HC.out)
  replace HG := Lib.hid (chg_drew HG.out)
  refine wp_region_held_drew (S := (fun W => W.cell? ⟨w.heap.size, 0, none⟩ = some (.int .u8 (k : Int)) ∧ W.cell? ⟨w.heap.size, 1, none⟩ = some (.int .u8 (f : Int)) ∧ W.cell? ⟨w.heap.size, 2, none⟩ = some (.int .u8 (t : Int)) ∧ W.cell? ⟨w.heap.size, 3, none⟩ = some (.string b))) (by kernel_rfl) ?_ (fun hHeld => ?_)
  · (try dsimp only)
    exact ⟨(at4 HA.out).1, (at4 HA.out).2.1, (at4 HA.out).2.2.1, (at4 HA.out).2.2.2.1⟩
  refine Draw.take_w (i := 0) (v := ?vv1) rfl (by kernel_rfl) (by kernel_rfl) (by kernel_rfl) (fun _ _ _ h => h) (by rfl) ?hy1 (by assumption) ?rest1
  case hy1 => ((intro w hSw); (try dsimp only at hSw); go_simp; (try with_reducible rfl))
  (try simp only [Act.put, List.setIfInBounds_toArray, List.set_cons_zero, List.set_cons_succ])
  refine Draw.take_w (i := 1) (v := ?vv2) rfl (by kernel_rfl) (by kernel_rfl) (by kernel_rfl) (fun _ _ _ h => h) (by rfl) ?hy2 (by assumption) ?rest2
  case hy2 => ((intro w hSw); (try dsimp only at hSw); go_simp; (try with_reducible rfl))
  (try simp only [Act.put, List.setIfInBounds_toArray, List.set_cons_zero, List.set_cons_succ])
  refine Draw.take_w (i := 2) (v := ?vv3) rfl (by kernel_rfl) (by kernel_rfl) (by kernel_rfl) (fun _ _ _ h => h) (by rfl) ?hy3 (by assumption) ?rest3
  case hy3 => ((intro w hSw); (try dsimp only at hSw); go_simp; (try with_reducible rfl))
  (try simp only [Act.put, List.setIfInBounds_toArray, List.set_cons_zero, List.set_cons_succ])
  refine Draw.take_w (i := 3) (v := ?vv4) rfl (by kernel_rfl) (by kernel_rfl) (by kernel_rfl) (fun _ _ _ h => h) (by rfl) ?hy4 (by assumption) ?rest4
  case hy4 => ((intro w hSw); (try dsimp only at hSw); go_simp; (try with_reducible rfl))
  (try simp only [Act.put, List.setIfInBounds_toArray, List.set_cons_zero, List.set_cons_succ])
  refine Draw.take_w (i := 4) (v := ?vv5) rfl (by kernel_rfl) (by kernel_rfl) (by kernel_rfl) (fun _ _ _ h => h) (by rfl) ?hy5 (by assumption) ?rest5
  case hy5 => ((intro w hSw); (try dsimp only at hSw); go_simp; (try with_reducible rfl))
  (try simp only [Act.put, List.setIfInBounds_toArray, List.set_cons_zero, List.set_cons_succ])
  refine Draw.take_w (i := 5) (v := ?vv6) rfl (by kernel_rfl) (by kernel_rfl) (by kernel_rfl) (fun _ _ _ h => h) (by rfl) ?hy6 (by assumption) ?rest6
  case hy6 => ((intro w hSw); (try dsimp only at hSw); go_simp; (try with_reducible rfl))
  (try simp only [Act.put, List.setIfInBounds_toArray, List.set_cons_zero, List.set_cons_succ])
  refine Draw.take_w (i := 8) (v := ?vv7) rfl (by kernel_rfl) (by kernel_rfl) (by kernel_rfl) (fun _ _ _ h => h) (by rfl) ?hy7 (by assumption) ?rest7
  case hy7 => ((intro w hSw); (try dsimp only at hSw); go_simp; (try with_reducible rfl))
  (try simp only [Act.put, List.setIfInBounds_toArray, List.set_cons_zero, List.set_cons_succ])
  refine Draw.take_w (i := 9) (v := ?vv8) rfl (by kernel_rfl) (by kernel_rfl) (by kernel_rfl) (fun _ _ _ h => h) (by rfl) ?hy8 (by assumption) ?rest8
  case hy8 => ((intro w hSw); (try dsimp only at hSw); go_simp; (try with_reducible rfl))
  (try simp only [Act.put, List.setIfInBounds_toArray, List.set_cons_zero, List.set_cons_succ])
  refine Draw.take_w (i := 10) (v := ?vv9) rfl (by kernel_rfl) (by kernel_rfl) (by kernel_rfl) (fun _ _ _ h => h) (by rfl) ?hy9 (by assumption) ?rest9
  case hy9 => ((intro w hSw); (try dsimp only at hSw); go_simp; (try with_reducible rfl))
  (try simp only [Act.put, List.setIfInBounds_toArray, List.set_cons_zero, List.set_cons_succ])
  refine Draw.take_w (i := 11) (v := ?vv10) rfl (by kernel_rfl) (by kernel_rfl) (by kernel_rfl) (fun _ _ _ h => h) (by rfl) ?hy10 (by assumption) ?rest10
  case hy10 => ((intro w hSw); (try dsimp only at hSw); go_simp; (try with_reducible rfl))
  (try simp only [Act.put, List.setIfInBounds_toArray, List.set_cons_zero, List.set_cons_succ])
  refine Draw.take_w (i := 14) (v := ?vv11) rfl (by kernel_rfl) (by kernel_rfl) (by kernel_rfl) (fun _ _ _ h => h) (by rfl) ?hy11 (by assumption) ?rest11
  case hy11 => ((intro w hSw); (try dsimp only at hSw); go_simp; (try with_reducible rfl))
  (try simp only [Act.put, List.setIfInBounds_toArray, List.set_cons_zero, List.set_cons_succ])
  refine Draw.take_w (i := 15) (v := ?vv12) rfl (by kernel_rfl) (by kernel_rfl) (by kernel_rfl) (fun _ _ _ h => h) (by rfl) ?hy12 (by assumption) ?rest12
  case hy12 => ((intro w hSw); (try dsimp only at hSw); go_simp; (try with_reducible rfl))
  (try simp only [Act.put, List.setIfInBounds_toArray, List.set_cons_zero, List.set_cons_succ])
  generalize w1.drew = W0 at *
  clear hHeld
  refine wpAnyH_ready (rs := [6, 12]) (by kernel_rfl) (by simp) (AllReadyH.cons (Draw.nth (i := 6) rfl) ?s0_6 (AllReadyH.cons (Draw.nth (i := 12) rfl) ?s0_12 (AllReadyH.nil)))
  case s0_6 =>
    intro K' hK'
    rw [if_pos (by rfl)]
    go_simp
    have hk2 := Lib.hid hK'.out
    have HR := Lib.hid (hrow.out W0)
    replace HA := Lib.hid (at_alloc (o := .cells #[.int .u8 1, .int .u8 (k : Int), .int .u8 (f : Int), .int .u8 (t : Int)] 5) HA.out)
    replace HC := Lib.hid (cod_al (o := .cells #[.int .u8 1, .int .u8 (k : Int), .int .u8 (f : Int), .int .u8 (t : Int)] 5) HC.out)
    replace HG := Lib.hid (chg_alloc (o := .cells #[.int .u8 1, .int .u8 (k : Int), .int .u8 (f : Int), .int .u8 (t : Int)] 5) HG.out)
    refine hk2.out _ _ ?_ (fun hHeld => ?_)
    · (try dsimp only)
      exact ⟨(at4 HA.out).1, (at4 HA.out).2.1, (at4 HA.out).2.2.1, (at4 HA.out).2.2.2.1⟩
    clear hK' hk2 K' hHeld
    (try simp only [Act.put, List.setIfInBounds_toArray, List.set_cons_zero, List.set_cons_succ])
    generalize W0.alloc (.cells #[.int .u8 1, .int .u8 (k : Int), .int .u8 (f : Int), .int .u8 (t : Int)] 5) = W1 at *
    generalize W0.heap.size = b6 at *
    refine wpAnyH_ready (rs := [7, 12]) (by kernel_rfl) (by simp) (AllReadyH.cons (Draw.nth (i := 7) rfl) ?s6_7 (AllReadyH.cons (Draw.nth (i := 12) rfl) ?s6_12 (AllReadyH.nil)))
    case s6_7 =>
      intro K' hK'
      rw [if_pos (by rfl)]
      have kv := row_conv (cap := 4) HR.out
      rw [HOF.out] at kv
      go_simp
      have hk2 := Lib.hid hK'.out
      refine hk2.out _ _ ?_ (fun hHeld => ?_)
      · (try dsimp only)
        exact ⟨(at4 HA.out).1, (at4 HA.out).2.1, (at4 HA.out).2.2.1, (at4 HA.out).2.2.2.1⟩
      clear hK' hk2 K' hHeld kv
      (try simp only [Act.put, List.setIfInBounds_toArray, List.set_cons_zero, List.set_cons_succ])
      refine wpAnyH_ready (rs := [12]) (by kernel_rfl) (by simp) (AllReadyH.cons (Draw.nth (i := 12) rfl) ?s67_12 (AllReadyH.nil))
      case s67_12 =>
        intro K' hK'
        rw [if_pos (by rfl)]
        go_simp
        refine (HF.out _).mono ?_
        rintro e W3 ⟨rfl, b2⟩
        have hk2 := Lib.hid hK'.out
        replace HA := Lib.hid (at_below HA.out b2)
        replace HC := Lib.hid (cod_below HC.out b2)
        replace HG := Lib.hid (chg_below HG.out b2)
        replace HR := Lib.hid (row_below HR.out b2)
        refine hk2.out _ _ ?_ (fun hHeld => ?_)
        · (try dsimp only)
          exact ⟨(at4 HA.out).1, (at4 HA.out).2.1, (at4 HA.out).2.2.1, (at4 HA.out).2.2.2.1⟩
        clear hK' hk2 K' hHeld b2
        (try simp only [Act.put, List.setIfInBounds_toArray, List.set_cons_zero, List.set_cons_succ])
        have hHeld : (fun W => W.cell? ⟨w.heap.size, 0, none⟩ = some (.int .u8 (k : Int)) ∧ W.cell? ⟨w.heap.size, 1, none⟩ = some (.int .u8 (f : Int)) ∧ W.cell? ⟨w.heap.size, 2, none⟩ = some (.int .u8 (t : Int)) ∧ W.cell? ⟨w.heap.size, 3, none⟩ = some (.string b)) W3 := by
          (try dsimp only)
          exact ⟨(at4 HA.out).1, (at4 HA.out).2.1, (at4 HA.out).2.2.1, (at4 HA.out).2.2.2.1⟩
        refine Draw.take_w (i := 13) (v := ?va6712) rfl (by kernel_rfl) (by kernel_rfl) (by kernel_rfl) (fun _ _ _ h => h) (by rfl) ?hya6712 (by assumption) ?resta6712
        case hya6712 => ((intro w hSw); (try dsimp only at hSw); go_simp; (try with_reducible rfl))
        (try simp only [Act.put, List.setIfInBounds_toArray, List.set_cons_zero, List.set_cons_succ])
        refine Draw.take_w (i := 16) (v := .string pr) rfl (by kernel_rfl) (by kernel_rfl) (by kernel_rfl) (fun _ _ _ h => h) (by rfl) ?hyb6712 (by assumption) ?restb6712
        case hyb6712 => ((intro w hSw); (try dsimp only at hSw); rw [hpe.out]; go_simp; (try with_reducible rfl))
        (try simp only [Act.put, List.setIfInBounds_toArray, List.set_cons_zero, List.set_cons_succ])
        refine Draw.take_w (i := 17) (v := ?vc6712) rfl (by kernel_rfl) (by kernel_rfl) (by kernel_rfl) (fun _ _ _ h => h) (by rfl) ?hyc6712 (by assumption) ?restc6712
        case hyc6712 => ((intro w hSw); (try dsimp only at hSw); go_simp; (try with_reducible rfl))
        (try simp only [Act.put, List.setIfInBounds_toArray, List.set_cons_zero, List.set_cons_succ])
        refine wpAnyH_done (by kernel_rfl) ?_ _
        exact HK1.out b6 _ HC HG
    case s6_12 =>
      intro K' hK'
      rw [if_pos (by rfl)]
      go_simp
      refine (HF.out _).mono ?_
      rintro e W2 ⟨rfl, b2⟩
      have hk2 := Lib.hid hK'.out
      replace HA := Lib.hid (at_below HA.out b2)
      replace HC := Lib.hid (cod_below HC.out b2)
      replace HG := Lib.hid (chg_below HG.out b2)
      replace HR := Lib.hid (row_below HR.out b2)
      refine hk2.out _ _ ?_ (fun hHeld => ?_)
      · (try dsimp only)
        exact ⟨(at4 HA.out).1, (at4 HA.out).2.1, (at4 HA.out).2.2.1, (at4 HA.out).2.2.2.1⟩
      clear hK' hk2 K' hHeld b2
      (try simp only [Act.put, List.setIfInBounds_toArray, List.set_cons_zero, List.set_cons_succ])
      refine wpAnyH_ready (rs := [7]) (by kernel_rfl) (by simp) (AllReadyH.cons (Draw.nth (i := 7) rfl) ?s612_7 (AllReadyH.nil))
      case s612_7 =>
        intro K' hK'
        rw [if_pos (by rfl)]
        have kv := row_conv (cap := 4) HR.out
        rw [HOF.out] at kv
        go_simp
        have hk2 := Lib.hid hK'.out
        refine hk2.out _ _ ?_ (fun hHeld => ?_)
        · (try dsimp only)
          exact ⟨(at4 HA.out).1, (at4 HA.out).2.1, (at4 HA.out).2.2.1, (at4 HA.out).2.2.2.1⟩
        clear hK' hk2 K' hHeld kv
        (try simp only [Act.put, List.setIfInBounds_toArray, List.set_cons_zero, List.set_cons_succ])
        have hHeld : (fun W => W.cell? ⟨w.heap.size, 0, none⟩ = some (.int .u8 (k : Int)) ∧ W.cell? ⟨w.heap.size, 1, none⟩ = some (.int .u8 (f : Int)) ∧ W.cell? ⟨w.heap.size, 2, none⟩ = some (.int .u8 (t : Int)) ∧ W.cell? ⟨w.heap.size, 3, none⟩ = some (.string b)) W2 := by
          (try dsimp only)
          exact ⟨(at4 HA.out).1, (at4 HA.out).2.1, (at4 HA.out).2.2.1, (at4 HA.out).2.2.2.1⟩
        refine Draw.take_w (i := 13) (v := ?va6127) rfl (by kernel_rfl) (by kernel_rfl) (by kernel_rfl) (fun _ _ _ h => h) (by rfl) ?hya6127 (by assumption) ?resta6127
        case hya6127 => ((intro w hSw); (try dsimp only at hSw); go_simp; (try with_reducible rfl))
        (try simp only [Act.put, List.setIfInBounds_toArray, List.set_cons_zero, List.set_cons_succ])
        refine Draw.take_w (i := 16) (v := .string pr) rfl (by kernel_rfl) (by kernel_rfl) (by kernel_rfl) (fun _ _ _ h => h) (by rfl) ?hyb6127 (by assumption) ?restb6127
        case hyb6127 => ((intro w hSw); (try dsimp only at hSw); rw [hpe.out]; go_simp; (try with_reducible rfl))
        (try simp only [Act.put, List.setIfInBounds_toArray, List.set_cons_zero, List.set_cons_succ])
        refine Draw.take_w (i := 17) (v := ?vc6127) rfl (by kernel_rfl) (by kernel_rfl) (by kernel_rfl) (fun _ _ _ h => h) (by rfl) ?hyc6127 (by assumption) ?restc6127
        case hyc6127 => ((intro w hSw); (try dsimp only at hSw); go_simp; (try with_reducible rfl))
        (try simp only [Act.put, List.setIfInBounds_toArray, List.set_cons_zero, List.set_cons_succ])
        refine wpAnyH_done (by kernel_rfl) ?_ _
        exact HK1.out b6 _ HC HG
  case s0_12 =>
    intro K' hK'
    rw [if_pos (by rfl)]
    go_simp
    refine (HF.out _).mono ?_
    rintro e W1 ⟨rfl, b2⟩
    have hk2 := Lib.hid hK'.out
    replace HA := Lib.hid (at_below HA.out b2)
    replace HC := Lib.hid (cod_below HC.out b2)
    replace HG := Lib.hid (chg_below HG.out b2)
    refine hk2.out _ _ ?_ (fun hHeld => ?_)
    · (try dsimp only)
      exact ⟨(at4 HA.out).1, (at4 HA.out).2.1, (at4 HA.out).2.2.1, (at4 HA.out).2.2.2.1⟩
    clear hK' hk2 K' hHeld b2
    (try simp only [Act.put, List.setIfInBounds_toArray, List.set_cons_zero, List.set_cons_succ])
    refine wpAnyH_ready (rs := [6]) (by kernel_rfl) (by simp) (AllReadyH.cons (Draw.nth (i := 6) rfl) ?s12_6 (AllReadyH.nil))
    case s12_6 =>
      intro K' hK'
      rw [if_pos (by rfl)]
      go_simp
      have hk2 := Lib.hid hK'.out
      have HR := Lib.hid (hrow.out W1)
      replace HA := Lib.hid (at_alloc (o := .cells #[.int .u8 1, .int .u8 (k : Int), .int .u8 (f : Int), .int .u8 (t : Int)] 5) HA.out)
      replace HC := Lib.hid (cod_al (o := .cells #[.int .u8 1, .int .u8 (k : Int), .int .u8 (f : Int), .int .u8 (t : Int)] 5) HC.out)
      replace HG := Lib.hid (chg_alloc (o := .cells #[.int .u8 1, .int .u8 (k : Int), .int .u8 (f : Int), .int .u8 (t : Int)] 5) HG.out)
      refine hk2.out _ _ ?_ (fun hHeld => ?_)
      · (try dsimp only)
        exact ⟨(at4 HA.out).1, (at4 HA.out).2.1, (at4 HA.out).2.2.1, (at4 HA.out).2.2.2.1⟩
      clear hK' hk2 K' hHeld
      (try simp only [Act.put, List.setIfInBounds_toArray, List.set_cons_zero, List.set_cons_succ])
      generalize W1.alloc (.cells #[.int .u8 1, .int .u8 (k : Int), .int .u8 (f : Int), .int .u8 (t : Int)] 5) = W2 at *
      generalize W1.heap.size = b6 at *
      refine wpAnyH_ready (rs := [7]) (by kernel_rfl) (by simp) (AllReadyH.cons (Draw.nth (i := 7) rfl) ?s126_7 (AllReadyH.nil))
      case s126_7 =>
        intro K' hK'
        rw [if_pos (by rfl)]
        have kv := row_conv (cap := 4) HR.out
        rw [HOF.out] at kv
        go_simp
        have hk2 := Lib.hid hK'.out
        refine hk2.out _ _ ?_ (fun hHeld => ?_)
        · (try dsimp only)
          exact ⟨(at4 HA.out).1, (at4 HA.out).2.1, (at4 HA.out).2.2.1, (at4 HA.out).2.2.2.1⟩
        clear hK' hk2 K' hHeld kv
        (try simp only [Act.put, List.setIfInBounds_toArray, List.set_cons_zero, List.set_cons_succ])
        have hHeld : (fun W => W.cell? ⟨w.heap.size, 0, none⟩ = some (.int .u8 (k : Int)) ∧ W.cell? ⟨w.heap.size, 1, none⟩ = some (.int .u8 (f : Int)) ∧ W.cell? ⟨w.heap.size, 2, none⟩ = some (.int .u8 (t : Int)) ∧ W.cell? ⟨w.heap.size, 3, none⟩ = some (.string b)) W2 := by
          (try dsimp only)
          exact ⟨(at4 HA.out).1, (at4 HA.out).2.1, (at4 HA.out).2.2.1, (at4 HA.out).2.2.2.1⟩
        refine Draw.take_w (i := 13) (v := ?va1267) rfl (by kernel_rfl) (by kernel_rfl) (by kernel_rfl) (fun _ _ _ h => h) (by rfl) ?hya1267 (by assumption) ?resta1267
        case hya1267 => ((intro w hSw); (try dsimp only at hSw); go_simp; (try with_reducible rfl))
        (try simp only [Act.put, List.setIfInBounds_toArray, List.set_cons_zero, List.set_cons_succ])
        refine Draw.take_w (i := 16) (v := .string pr) rfl (by kernel_rfl) (by kernel_rfl) (by kernel_rfl) (fun _ _ _ h => h) (by rfl) ?hyb1267 (by assumption) ?restb1267
        case hyb1267 => ((intro w hSw); (try dsimp only at hSw); rw [hpe.out]; go_simp; (try with_reducible rfl))
        (try simp only [Act.put, List.setIfInBounds_toArray, List.set_cons_zero, List.set_cons_succ])
        refine Draw.take_w (i := 17) (v := ?vc1267) rfl (by kernel_rfl) (by kernel_rfl) (by kernel_rfl) (fun _ _ _ h => h) (by rfl) ?hyc1267 (by assumption) ?restc1267
        case hyc1267 => ((intro w hSw); (try dsimp only at hSw); go_simp; (try with_reducible rfl))
        (try simp only [Act.put, List.setIfInBounds_toArray, List.set_cons_zero, List.set_cons_succ])
        refine wpAnyH_done (by kernel_rfl) ?_ _
        exact HK1.out b6 _ HC HG
end Go.Proofs.Ytdjompbhlkgmbaa.Frame
end
section
/- A struct stored whole: its cells laid one after the other (own text). -/
namespace Go.Proofs.Ytdjompbhlkgmbaa.Mem
open Go.RowKit
set_option linter.unusedVariables false
theorem at_set3_ne {w : World} {b b' : Nat} {v0 v1 v2 : Value} {cs : Array Value} {t : TypeId} (h : At w b cs t) (hne : b ≠ b') : At (((w.setCell ⟨b', 0, none⟩ (v0)).setCell ⟨b', 1, none⟩ (v1)).setCell ⟨b', 2, none⟩ (v2)) b cs t :=
  at_set_ne (hne := hne) (at_set_ne (hne := hne) (at_set_ne (hne := hne) (h)))
theorem at_set3 {w : World} {b : Nat} {v0 v1 v2 u0 u1 u2 : Value} {t : TypeId} (h : At w b #[u0, u1, u2] t) : At (((w.setCell ⟨b, 0, none⟩ (v0)).setCell ⟨b, 1, none⟩ (v1)).setCell ⟨b, 2, none⟩ (v2)) b #[v0, v1, v2] t := by
  have h0 : At (w.setCell ⟨b, 0, none⟩ v0) b #[v0, u1, u2] t := at_set' h rfl
  have h1 : At ((w.setCell ⟨b, 0, none⟩ v0).setCell ⟨b, 1, none⟩ v1) b #[v0, v1, u2] t := at_set' h0 rfl
  have h2 : At (((w.setCell ⟨b, 0, none⟩ v0).setCell ⟨b, 1, none⟩ v1).setCell ⟨b, 2, none⟩ v2) b #[v0, v1, v2] t := at_set' h1 rfl
  exact h2
theorem at_set4 {w : World} {b : Nat} {v0 v1 v2 v3 u0 u1 u2 u3 : Value} {t : TypeId} (h : At w b #[u0, u1, u2, u3] t) : At ((((w.setCell ⟨b, 0, none⟩ (v0)).setCell ⟨b, 1, none⟩ (v1)).setCell ⟨b, 2, none⟩ (v2)).setCell ⟨b, 3, none⟩ (v3)) b #[v0, v1, v2, v3] t := by
  have h0 : At (w.setCell ⟨b, 0, none⟩ v0) b #[v0, u1, u2, u3] t := at_set' h rfl
  have h1 : At ((w.setCell ⟨b, 0, none⟩ v0).setCell ⟨b, 1, none⟩ v1) b #[v0, v1, u2, u3] t := at_set' h0 rfl
  have h2 : At (((w.setCell ⟨b, 0, none⟩ v0).setCell ⟨b, 1, none⟩ v1).setCell ⟨b, 2, none⟩ v2) b #[v0, v1, v2, u3] t := at_set' h1 rfl
  have h3 : At ((((w.setCell ⟨b, 0, none⟩ v0).setCell ⟨b, 1, none⟩ v1).setCell ⟨b, 2, none⟩ v2).setCell ⟨b, 3, none⟩ v3) b #[v0, v1, v2, v3] t := at_set' h2 rfl
  exact h3
theorem at_set5_ne {w : World} {b b' : Nat} {v0 v1 v2 v3 v4 : Value} {cs : Array Value} {t : TypeId} (h : At w b cs t) (hne : b ≠ b') : At (((((w.setCell ⟨b', 0, none⟩ (v0)).setCell ⟨b', 1, none⟩ (v1)).setCell ⟨b', 2, none⟩ (v2)).setCell ⟨b', 3, none⟩ (v3)).setCell ⟨b', 4, none⟩ (v4)) b cs t :=
  at_set_ne (hne := hne) (at_set_ne (hne := hne) (at_set_ne (hne := hne) (at_set_ne (hne := hne) (at_set_ne (hne := hne) (h)))))
theorem at_set5 {w : World} {b : Nat} {v0 v1 v2 v3 v4 u0 u1 u2 u3 u4 : Value} {t : TypeId} (h : At w b #[u0, u1, u2, u3, u4] t) : At (((((w.setCell ⟨b, 0, none⟩ (v0)).setCell ⟨b, 1, none⟩ (v1)).setCell ⟨b, 2, none⟩ (v2)).setCell ⟨b, 3, none⟩ (v3)).setCell ⟨b, 4, none⟩ (v4)) b #[v0, v1, v2, v3, v4] t := by
  have h0 : At (w.setCell ⟨b, 0, none⟩ v0) b #[v0, u1, u2, u3, u4] t := at_set' h rfl
  have h1 : At ((w.setCell ⟨b, 0, none⟩ v0).setCell ⟨b, 1, none⟩ v1) b #[v0, v1, u2, u3, u4] t := at_set' h0 rfl
  have h2 : At (((w.setCell ⟨b, 0, none⟩ v0).setCell ⟨b, 1, none⟩ v1).setCell ⟨b, 2, none⟩ v2) b #[v0, v1, v2, u3, u4] t := at_set' h1 rfl
  have h3 : At ((((w.setCell ⟨b, 0, none⟩ v0).setCell ⟨b, 1, none⟩ v1).setCell ⟨b, 2, none⟩ v2).setCell ⟨b, 3, none⟩ v3) b #[v0, v1, v2, v3, u4] t := at_set' h2 rfl
  have h4 : At (((((w.setCell ⟨b, 0, none⟩ v0).setCell ⟨b, 1, none⟩ v1).setCell ⟨b, 2, none⟩ v2).setCell ⟨b, 3, none⟩ v3).setCell ⟨b, 4, none⟩ v4) b #[v0, v1, v2, v3, v4] t := at_set' h3 rfl
  exact h4
theorem at_set8_ne {w : World} {b b' : Nat} {v0 v1 v2 v3 v4 v5 v6 v7 : Value} {cs : Array Value} {t : TypeId} (h : At w b cs t) (hne : b ≠ b') : At ((((((((w.setCell ⟨b', 0, none⟩ (v0)).setCell ⟨b', 1, none⟩ (v1)).setCell ⟨b', 2, none⟩ (v2)).setCell ⟨b', 3, none⟩ (v3)).setCell ⟨b', 4, none⟩ (v4)).setCell ⟨b', 5, none⟩ (v5)).setCell ⟨b', 6, none⟩ (v6)).setCell ⟨b', 7, none⟩ (v7)) b cs t :=
  at_set_ne (hne := hne) (at_set_ne (hne := hne) (at_set_ne (hne := hne) (at_set_ne (hne := hne) (at_set_ne (hne := hne) (at_set_ne (hne := hne) (at_set_ne (hne := hne) (at_set_ne (hne := hne) (h))))))))
theorem at_set8 {w : World} {b : Nat} {v0 v1 v2 v3 v4 v5 v6 v7 u0 u1 u2 u3 u4 u5 u6 u7 : Value} {t : TypeId} (h : At w b #[u0, u1, u2, u3, u4, u5, u6, u7] t) : At ((((((((w.setCell ⟨b, 0, none⟩ (v0)).setCell ⟨b, 1, none⟩ (v1)).setCell ⟨b, 2, none⟩ (v2)).setCell ⟨b, 3, none⟩ (v3)).setCell ⟨b, 4, none⟩ (v4)).setCell ⟨b, 5, none⟩ (v5)).setCell ⟨b, 6, none⟩ (v6)).setCell ⟨b, 7, none⟩ (v7)) b #[v0, v1, v2, v3, v4, v5, v6, v7] t := by
  have h0 : At (w.setCell ⟨b, 0, none⟩ v0) b #[v0, u1, u2, u3, u4, u5, u6, u7] t := at_set' h rfl
  have h1 : At ((w.setCell ⟨b, 0, none⟩ v0).setCell ⟨b, 1, none⟩ v1) b #[v0, v1, u2, u3, u4, u5, u6, u7] t := at_set' h0 rfl
  have h2 : At (((w.setCell ⟨b, 0, none⟩ v0).setCell ⟨b, 1, none⟩ v1).setCell ⟨b, 2, none⟩ v2) b #[v0, v1, v2, u3, u4, u5, u6, u7] t := at_set' h1 rfl
  have h3 : At ((((w.setCell ⟨b, 0, none⟩ v0).setCell ⟨b, 1, none⟩ v1).setCell ⟨b, 2, none⟩ v2).setCell ⟨b, 3, none⟩ v3) b #[v0, v1, v2, v3, u4, u5, u6, u7] t := at_set' h2 rfl
  have h4 : At (((((w.setCell ⟨b, 0, none⟩ v0).setCell ⟨b, 1, none⟩ v1).setCell ⟨b, 2, none⟩ v2).setCell ⟨b, 3, none⟩ v3).setCell ⟨b, 4, none⟩ v4) b #[v0, v1, v2, v3, v4, u5, u6, u7] t := at_set' h3 rfl
  have h5 : At ((((((w.setCell ⟨b, 0, none⟩ v0).setCell ⟨b, 1, none⟩ v1).setCell ⟨b, 2, none⟩ v2).setCell ⟨b, 3, none⟩ v3).setCell ⟨b, 4, none⟩ v4).setCell ⟨b, 5, none⟩ v5) b #[v0, v1, v2, v3, v4, v5, u6, u7] t := at_set' h4 rfl
  have h6 : At (((((((w.setCell ⟨b, 0, none⟩ v0).setCell ⟨b, 1, none⟩ v1).setCell ⟨b, 2, none⟩ v2).setCell ⟨b, 3, none⟩ v3).setCell ⟨b, 4, none⟩ v4).setCell ⟨b, 5, none⟩ v5).setCell ⟨b, 6, none⟩ v6) b #[v0, v1, v2, v3, v4, v5, v6, u7] t := at_set' h5 rfl
  have h7 : At ((((((((w.setCell ⟨b, 0, none⟩ v0).setCell ⟨b, 1, none⟩ v1).setCell ⟨b, 2, none⟩ v2).setCell ⟨b, 3, none⟩ v3).setCell ⟨b, 4, none⟩ v4).setCell ⟨b, 5, none⟩ v5).setCell ⟨b, 6, none⟩ v6).setCell ⟨b, 7, none⟩ v7) b #[v0, v1, v2, v3, v4, v5, v6, v7] t := at_set' h6 rfl
  exact h7
theorem below_set8 {w W : World} {b : Nat} {v0 v1 v2 v3 v4 v5 v6 v7 : Value} (h : Below w.heap.size w W) (hb : w.heap.size ≤ b) : Below w.heap.size w ((((((((W.setCell ⟨b, 0, none⟩ (v0)).setCell ⟨b, 1, none⟩ (v1)).setCell ⟨b, 2, none⟩ (v2)).setCell ⟨b, 3, none⟩ (v3)).setCell ⟨b, 4, none⟩ (v4)).setCell ⟨b, 5, none⟩ (v5)).setCell ⟨b, 6, none⟩ (v6)).setCell ⟨b, 7, none⟩ (v7)) :=
  below_new (below_new (below_new (below_new (below_new (below_new (below_new (below_new (h) hb) hb) hb) hb) hb) hb) hb) hb

end Go.Proofs.Ytdjompbhlkgmbaa.Mem
end
section
/- The program's codec: Decode (own text; printed by wip/tools/gen_framedec.py, a program of this session). -/
namespace Go.Proofs.Ytdjompbhlkgmbaa.Frame
open Go.Proofs.Ytdjompbhlkgmbaa Go.RowKit Go.Proofs.Ytdjompbhlkgmbaa.Mem Go.Proofs.Ytdjompbhlkgmbaa.Sum
set_option linter.unusedVariables false
set_option linter.unusedSimpArgs false
theorem num4_sub (s : ByteArray) (m : Nat) (h : m + 4 ≤ s.size) : num4 (s.extract m s.size) 0 = num4 s m := by
  unfold num4
  rw [by_sub s m s.size 0 (by omega) (Nat.le_refl _), by_sub s m s.size 1 (by omega) (Nat.le_refl _), by_sub s m s.size 2 (by omega) (Nat.le_refl _), by_sub s m s.size 3 (by omega) (Nat.le_refl _)]
  rfl
def decV (r : Nat × Nat × Nat × ByteArray × Int) : Value := .tuple #[.agg #[.int .u8 (r.1 : Int), .int .u8 (r.2.1 : Int), .int .u8 (r.2.2.1 : Int), .string r.2.2.2.1], .int .i64 r.2.2.2.2]
theorem isTab_lt {w : World} {b : Nat} (h : IsTab w b) : b < w.heap.size := h.elim (fun h => World.block_lt_of_cell? w _ h.c0) (fun h => World.block_lt_of_cell? w _ h.c0)
theorem dec_short (c tb : Nat) (s : ByteArray) (w : World) (hc : Cod w c tb) (hs : s.size ≤ 999000) (h1 : s.size < 12) :
    Calls Try.prog 27 #[.pointer (some ⟨c, 0, none⟩), .string s] w fun e w' => e = .returned (decV (0, 0, 0, ⟨#[]⟩, 2)) ∧ IsTab w' tb ∧ Chg (fun x => x = tb) w w' := by
  have c1 : decide ((s.size : Int) < 12) = true := decide_eq_true (by omega)
  have HC := Lib.hid hc
  clear hc h1
  go_enter Try.func27, Try.ntmps27
  go_wp2_with (fail)
  have HO := Lib.hid (at_new w #[.int .u8 0, .int .u8 0, .int .u8 0, .string ⟨#[]⟩] 46)
  have HT := Lib.hid (cod_al (o := .cells #[.int .u8 0, .int .u8 0, .int .u8 0, .string ⟨#[]⟩] 46) HC.out).t
  have HG := Lib.hid (chg_alloc (o := .cells #[.int .u8 0, .int .u8 0, .int .u8 0, .string ⟨#[]⟩] 46) (chg_refl (fun x => x = tb) w))
  generalize w.alloc (.cells #[.int .u8 0, .int .u8 0, .int .u8 0, .string ⟨#[]⟩] 46) = w1 at *
  obtain ⟨zz0, zz1, zz2, zz3, -⟩ := at4 HO.out
  refine bodyPost_ret (by simp [results, Try.results27, go_sem, zz0, zz1, zz2, zz3]; try rfl) rfl ?_
  exact ⟨rfl, HT.out, HG.out⟩
set_option maxRecDepth 100000 in
set_option maxHeartbeats 1600000 in
theorem dec_2 (c tb : Nat) (s : ByteArray) (w : World) (hc : Cod w c tb) (hs : s.size ≤ 999000) (s0 s1 s2 s3 n m u : Nat) (B : ByteArray) (h12 : 12 ≤ s.size) (e0 : by' s 0 = s0) (e1 : by' s 1 = s1) (e2 : by' s 2 = s2) (e3 : by' s 3 = s3) (en : num4 s 4 = n) (em : more 0 (s.extract 0 (s.size - 4)) = m) (eu : num4 s (s.size - 4) = u) (eb : s.extract 8 (s.size - 4) = B) (h0 : ¬ s0 = 1) :
    Calls Try.prog 27 #[.pointer (some ⟨c, 0, none⟩), .string s] w fun e w' => e = .returned (decV (0, 0, 0, ⟨#[]⟩, 3)) ∧ IsTab w' tb ∧ Chg (fun x => x = tb) w w' := by
  have c1 : decide ((s.size : Int) < 12) = false := decide_eq_false (by omega)
  have HC := Lib.hid hc
  have l0 : 0 < s.size := by omega
  have l1 : 1 < s.size := by omega
  have l2 : 2 < s.size := by omega
  have l3 : 3 < s.size := by omega
  have a0 := by_at s 0 l0
  have a1 := by_at s 1 l1
  have a2 := by_at s 2 l2
  have a3 := by_at s 3 l3
  rw [e0] at a0
  rw [e1] at a1
  rw [e2] at a2
  rw [e3] at a3
  have hn := fun w => pnumber (s.extract 4 s.size) w (by rw [size_sub _ _ _ (Nat.le_refl _)]; omega)
  rw [num4_sub s 4 (by omega), en] at hn
  have HN := Lib.hid hn
  have hu := fun w => pnumber (s.extract (s.size - 4) s.size) w (by rw [size_sub _ _ _ (Nat.le_refl _)]; omega)
  rw [num4_sub s (s.size - 4) (by omega), eu] at hu
  have HU := Lib.hid hu
  have hS := fun (W : World) (h : IsTab W tb) => sum_any tb (s.extract 0 (s.size - 4)) W h (by rw [size_sub _ _ _ (by omega)]; omega)
  rw [em] at hS
  have HS1 := Lib.hid hS
  have hy := fun w => pmay s1 s2 s3 ⟨#[]⟩ w
  have k0 : ((s0 : Int) != 1) = true := bne_iff_ne.2 (by omega)
  clear hy
  have ty : tb ≠ w.heap.size := by
    have := isTab_lt hc.t
    omega
  have cy : c ≠ w.heap.size := by
    have := At.lt hc.a
    omega
  have ty6 : tb ≠ w.heap.size + 1 := by
    have := isTab_lt hc.t
    omega
  have cy6 : c ≠ w.heap.size + 1 := by
    have := At.lt hc.a
    omega
  have hsl : ∀ W : World, (Instr.slice 9 (.string s) none (some (.int .i64 ((s.size : Int) - 4))) none).run Try.prog W = .ok (.string (s.extract 0 (s.size - 4))) W := fun W => by
    rw [show (s.size : Int) - 4 = ((s.size - 4 : Nat) : Int) by omega]
    go_simp
  have hsr : ∀ W : World, (Instr.slice 9 (.string s) (some (.int .i64 ((s.size : Int) - 4))) none none).run Try.prog W = .ok (.string (s.extract (s.size - 4) s.size)) W := fun W => by
    rw [show (s.size : Int) - 4 = ((s.size - 4 : Nat) : Int) by omega]
    go_simp
  have hsb : ∀ W : World, (Instr.slice 9 (.string s) (some (.int .i64 8)) (some (.int .i64 ((s.size : Int) - 4))) none).run Try.prog W = .ok (.string B) W := fun W => by
    rw [show (s.size : Int) - 4 = ((s.size - 4 : Nat) : Int) by omega, ← eb]
    go_simp
    intro hh
    exfalso
    omega
  clear hc hn hu hS e0 e1 e2 e3 en em eu eb
  go_enter Try.func27, Try.ntmps27
  go_wp2_with (fail)
  go_region
  go_wp2_with (fail)
  have HO := Lib.hid (at_drew (at_alloc (o := .cells #[.int .u8 (s1 : Int), .int .u8 (s2 : Int), .int .u8 (s3 : Int), .string ⟨#[]⟩] 46) (at_new w #[.int .u8 0, .int .u8 0, .int .u8 0, .string ⟨#[]⟩] 46)))
  have HF := Lib.hid (at_drew (at_new (w.alloc (.cells #[.int .u8 0, .int .u8 0, .int .u8 0, .string ⟨#[]⟩] 46)) #[.int .u8 (s1 : Int), .int .u8 (s2 : Int), .int .u8 (s3 : Int), .string ⟨#[]⟩] 46))
  rw [World.size_alloc] at HF
  replace HC := Lib.hid (cod_dr (cod_al (o := .cells #[.int .u8 (s1 : Int), .int .u8 (s2 : Int), .int .u8 (s3 : Int), .string ⟨#[]⟩] 46) (cod_al (o := .cells #[.int .u8 0, .int .u8 0, .int .u8 0, .string ⟨#[]⟩] 46) HC.out)))
  have HG := Lib.hid (chg_drew (chg_alloc (o := .cells #[.int .u8 (s1 : Int), .int .u8 (s2 : Int), .int .u8 (s3 : Int), .string ⟨#[]⟩] 46) (chg_alloc (o := .cells #[.int .u8 0, .int .u8 0, .int .u8 0, .string ⟨#[]⟩] 46) (chg_refl (fun x => x = tb) w))))
  refine (HN.out _).mono ?_
  rintro e w1 ⟨rfl, b1⟩
  replace HO := Lib.hid (at_below HO.out b1)
  replace HF := Lib.hid (at_below HF.out b1)
  replace HC := Lib.hid (cod_below HC.out b1)
  replace HG := Lib.hid (chg_below HG.out b1)
  clear b1
  obtain ⟨x0, x1, x2, x3, f0, f1, f2, f3⟩ := at4 HO.out
  obtain ⟨y0, y1, y2, y3, g0, g1, g2, g3⟩ := at4 HF.out
  go_wp2_with (fail)
  clear x0 x1 x2 x3 f0 f1 f2 f3 y0 y1 y2 y3 g0 g1 g2 g3
  have HS := Lib.hid (at_set4 (v0 := .int .u8 0) (v1 := .int .u8 0) (v2 := .int .u8 0) (v3 := .string ⟨#[]⟩) HO.out)
  have HX : Chg (fun x => x = w.heap.size) w1 (((((w1.setCell ⟨w.heap.size, 0, none⟩ (.int .u8 0)).setCell ⟨w.heap.size, 1, none⟩ (.int .u8 0)).setCell ⟨w.heap.size, 2, none⟩ (.int .u8 0)).setCell ⟨w.heap.size, 3, none⟩ (.string ⟨#[]⟩))) := chg_set (chg_set (chg_set (chg_set (chg_refl _ _) rfl) rfl) rfl) rfl
  have HT2 := Lib.hid (is_chg HC.out.t HX ty)
  have HG2 : Hid (Chg (fun x => x = tb) w (((((w1.setCell ⟨w.heap.size, 0, none⟩ (.int .u8 0)).setCell ⟨w.heap.size, 1, none⟩ (.int .u8 0)).setCell ⟨w.heap.size, 2, none⟩ (.int .u8 0)).setCell ⟨w.heap.size, 3, none⟩ (.string ⟨#[]⟩)))) := Lib.hid (chg_set_new (chg_set_new (chg_set_new (chg_set_new HG.out (Nat.le_refl _)) (Nat.le_refl _)) (Nat.le_refl _)) (Nat.le_refl _))
  clear HX HO HG
  generalize ((((w1.setCell ⟨w.heap.size, 0, none⟩ (.int .u8 0)).setCell ⟨w.heap.size, 1, none⟩ (.int .u8 0)).setCell ⟨w.heap.size, 2, none⟩ (.int .u8 0)).setCell ⟨w.heap.size, 3, none⟩ (.string ⟨#[]⟩)) = wz at *
  obtain ⟨zz0, zz1, zz2, zz3, -⟩ := at4 HS.out
  refine bodyPost_ret (by simp [results, Try.results27, go_sem, zz0, zz1, zz2, zz3]; try rfl) rfl ?_
  exact ⟨rfl, HT2.out, HG2.out⟩
set_option maxRecDepth 100000 in
set_option maxHeartbeats 1600000 in
theorem dec_3 (c tb : Nat) (s : ByteArray) (w : World) (hc : Cod w c tb) (hs : s.size ≤ 999000) (s0 s1 s2 s3 n m u : Nat) (B : ByteArray) (h12 : 12 ≤ s.size) (e0 : by' s 0 = s0) (e1 : by' s 1 = s1) (e2 : by' s 2 = s2) (e3 : by' s 3 = s3) (en : num4 s 4 = n) (em : more 0 (s.extract 0 (s.size - 4)) = m) (eu : num4 s (s.size - 4) = u) (eb : s.extract 8 (s.size - 4) = B) (h0 : s0 = 1) (hm : mayF s1 s2 s3 = false) :
    Calls Try.prog 27 #[.pointer (some ⟨c, 0, none⟩), .string s] w fun e w' => e = .returned (decV (0, 0, 0, ⟨#[]⟩, 3)) ∧ IsTab w' tb ∧ Chg (fun x => x = tb) w w' := by
  have c1 : decide ((s.size : Int) < 12) = false := decide_eq_false (by omega)
  have HC := Lib.hid hc
  have l0 : 0 < s.size := by omega
  have l1 : 1 < s.size := by omega
  have l2 : 2 < s.size := by omega
  have l3 : 3 < s.size := by omega
  have a0 := by_at s 0 l0
  have a1 := by_at s 1 l1
  have a2 := by_at s 2 l2
  have a3 := by_at s 3 l3
  rw [e0] at a0
  rw [e1] at a1
  rw [e2] at a2
  rw [e3] at a3
  have hn := fun w => pnumber (s.extract 4 s.size) w (by rw [size_sub _ _ _ (Nat.le_refl _)]; omega)
  rw [num4_sub s 4 (by omega), en] at hn
  have HN := Lib.hid hn
  have hu := fun w => pnumber (s.extract (s.size - 4) s.size) w (by rw [size_sub _ _ _ (Nat.le_refl _)]; omega)
  rw [num4_sub s (s.size - 4) (by omega), eu] at hu
  have HU := Lib.hid hu
  have hS := fun (W : World) (h : IsTab W tb) => sum_any tb (s.extract 0 (s.size - 4)) W h (by rw [size_sub _ _ _ (by omega)]; omega)
  rw [em] at hS
  have HS1 := Lib.hid hS
  have hy := fun w => pmay s1 s2 s3 ⟨#[]⟩ w
  have k0 : ((s0 : Int) != 1) = false := by rw [h0]; rfl
  rw [hm] at hy
  have HY := Lib.hid hy
  clear hy hm
  have ty : tb ≠ w.heap.size := by
    have := isTab_lt hc.t
    omega
  have cy : c ≠ w.heap.size := by
    have := At.lt hc.a
    omega
  have ty6 : tb ≠ w.heap.size + 1 := by
    have := isTab_lt hc.t
    omega
  have cy6 : c ≠ w.heap.size + 1 := by
    have := At.lt hc.a
    omega
  have hsl : ∀ W : World, (Instr.slice 9 (.string s) none (some (.int .i64 ((s.size : Int) - 4))) none).run Try.prog W = .ok (.string (s.extract 0 (s.size - 4))) W := fun W => by
    rw [show (s.size : Int) - 4 = ((s.size - 4 : Nat) : Int) by omega]
    go_simp
  have hsr : ∀ W : World, (Instr.slice 9 (.string s) (some (.int .i64 ((s.size : Int) - 4))) none none).run Try.prog W = .ok (.string (s.extract (s.size - 4) s.size)) W := fun W => by
    rw [show (s.size : Int) - 4 = ((s.size - 4 : Nat) : Int) by omega]
    go_simp
  have hsb : ∀ W : World, (Instr.slice 9 (.string s) (some (.int .i64 8)) (some (.int .i64 ((s.size : Int) - 4))) none).run Try.prog W = .ok (.string B) W := fun W => by
    rw [show (s.size : Int) - 4 = ((s.size - 4 : Nat) : Int) by omega, ← eb]
    go_simp
    intro hh
    exfalso
    omega
  clear hc hn hu hS e0 e1 e2 e3 en em eu eb
  go_enter Try.func27, Try.ntmps27
  go_wp2_with (fail)
  go_region
  go_wp2_with (fail)
  have HO := Lib.hid (at_drew (at_alloc (o := .cells #[.int .u8 (s1 : Int), .int .u8 (s2 : Int), .int .u8 (s3 : Int), .string ⟨#[]⟩] 46) (at_new w #[.int .u8 0, .int .u8 0, .int .u8 0, .string ⟨#[]⟩] 46)))
  have HF := Lib.hid (at_drew (at_new (w.alloc (.cells #[.int .u8 0, .int .u8 0, .int .u8 0, .string ⟨#[]⟩] 46)) #[.int .u8 (s1 : Int), .int .u8 (s2 : Int), .int .u8 (s3 : Int), .string ⟨#[]⟩] 46))
  rw [World.size_alloc] at HF
  replace HC := Lib.hid (cod_dr (cod_al (o := .cells #[.int .u8 (s1 : Int), .int .u8 (s2 : Int), .int .u8 (s3 : Int), .string ⟨#[]⟩] 46) (cod_al (o := .cells #[.int .u8 0, .int .u8 0, .int .u8 0, .string ⟨#[]⟩] 46) HC.out)))
  have HG := Lib.hid (chg_drew (chg_alloc (o := .cells #[.int .u8 (s1 : Int), .int .u8 (s2 : Int), .int .u8 (s3 : Int), .string ⟨#[]⟩] 46) (chg_alloc (o := .cells #[.int .u8 0, .int .u8 0, .int .u8 0, .string ⟨#[]⟩] 46) (chg_refl (fun x => x = tb) w))))
  refine (HN.out _).mono ?_
  rintro e w1 ⟨rfl, b1⟩
  replace HO := Lib.hid (at_below HO.out b1)
  replace HF := Lib.hid (at_below HF.out b1)
  replace HC := Lib.hid (cod_below HC.out b1)
  replace HG := Lib.hid (chg_below HG.out b1)
  clear b1
  obtain ⟨x0, x1, x2, x3, f0, f1, f2, f3⟩ := at4 HO.out
  obtain ⟨y0, y1, y2, y3, g0, g1, g2, g3⟩ := at4 HF.out
  go_wp2_with (fail)
  clear x0 x1 x2 x3 f0 f1 f2 f3 y0 y1 y2 y3 g0 g1 g2 g3
  refine (HY.out _).mono ?_
  rintro e w2 ⟨rfl, b1⟩
  replace HO := Lib.hid (at_below HO.out b1)
  replace HF := Lib.hid (at_below HF.out b1)
  replace HC := Lib.hid (cod_below HC.out b1)
  replace HG := Lib.hid (chg_below HG.out b1)
  clear b1
  obtain ⟨x0, x1, x2, x3, f0, f1, f2, f3⟩ := at4 HO.out
  obtain ⟨y0, y1, y2, y3, g0, g1, g2, g3⟩ := at4 HF.out
  go_wp2_with (fail)
  clear x0 x1 x2 x3 f0 f1 f2 f3 y0 y1 y2 y3 g0 g1 g2 g3
  have HS := Lib.hid (at_set4 (v0 := .int .u8 0) (v1 := .int .u8 0) (v2 := .int .u8 0) (v3 := .string ⟨#[]⟩) HO.out)
  have HX : Chg (fun x => x = w.heap.size) w2 (((((w2.setCell ⟨w.heap.size, 0, none⟩ (.int .u8 0)).setCell ⟨w.heap.size, 1, none⟩ (.int .u8 0)).setCell ⟨w.heap.size, 2, none⟩ (.int .u8 0)).setCell ⟨w.heap.size, 3, none⟩ (.string ⟨#[]⟩))) := chg_set (chg_set (chg_set (chg_set (chg_refl _ _) rfl) rfl) rfl) rfl
  have HT2 := Lib.hid (is_chg HC.out.t HX ty)
  have HG2 : Hid (Chg (fun x => x = tb) w (((((w2.setCell ⟨w.heap.size, 0, none⟩ (.int .u8 0)).setCell ⟨w.heap.size, 1, none⟩ (.int .u8 0)).setCell ⟨w.heap.size, 2, none⟩ (.int .u8 0)).setCell ⟨w.heap.size, 3, none⟩ (.string ⟨#[]⟩)))) := Lib.hid (chg_set_new (chg_set_new (chg_set_new (chg_set_new HG.out (Nat.le_refl _)) (Nat.le_refl _)) (Nat.le_refl _)) (Nat.le_refl _))
  clear HX HO HG
  generalize ((((w2.setCell ⟨w.heap.size, 0, none⟩ (.int .u8 0)).setCell ⟨w.heap.size, 1, none⟩ (.int .u8 0)).setCell ⟨w.heap.size, 2, none⟩ (.int .u8 0)).setCell ⟨w.heap.size, 3, none⟩ (.string ⟨#[]⟩)) = wz at *
  obtain ⟨zz0, zz1, zz2, zz3, -⟩ := at4 HS.out
  refine bodyPost_ret (by simp [results, Try.results27, go_sem, zz0, zz1, zz2, zz3]; try rfl) rfl ?_
  exact ⟨rfl, HT2.out, HG2.out⟩
set_option maxRecDepth 100000 in
set_option maxHeartbeats 1600000 in
theorem dec_4 (c tb : Nat) (s : ByteArray) (w : World) (hc : Cod w c tb) (hs : s.size ≤ 999000) (s0 s1 s2 s3 n m u : Nat) (B : ByteArray) (h12 : 12 ≤ s.size) (e0 : by' s 0 = s0) (e1 : by' s 1 = s1) (e2 : by' s 2 = s2) (e3 : by' s 3 = s3) (en : num4 s 4 = n) (em : more 0 (s.extract 0 (s.size - 4)) = m) (eu : num4 s (s.size - 4) = u) (eb : s.extract 8 (s.size - 4) = B) (h0 : s0 = 1) (hm : mayF s1 s2 s3 = true) (h4 : 1048576 < n) :
    Calls Try.prog 27 #[.pointer (some ⟨c, 0, none⟩), .string s] w fun e w' => e = .returned (decV (0, 0, 0, ⟨#[]⟩, 4)) ∧ IsTab w' tb ∧ Chg (fun x => x = tb) w w' := by
  have c1 : decide ((s.size : Int) < 12) = false := decide_eq_false (by omega)
  have HC := Lib.hid hc
  have l0 : 0 < s.size := by omega
  have l1 : 1 < s.size := by omega
  have l2 : 2 < s.size := by omega
  have l3 : 3 < s.size := by omega
  have a0 := by_at s 0 l0
  have a1 := by_at s 1 l1
  have a2 := by_at s 2 l2
  have a3 := by_at s 3 l3
  rw [e0] at a0
  rw [e1] at a1
  rw [e2] at a2
  rw [e3] at a3
  have hn := fun w => pnumber (s.extract 4 s.size) w (by rw [size_sub _ _ _ (Nat.le_refl _)]; omega)
  rw [num4_sub s 4 (by omega), en] at hn
  have HN := Lib.hid hn
  have hu := fun w => pnumber (s.extract (s.size - 4) s.size) w (by rw [size_sub _ _ _ (Nat.le_refl _)]; omega)
  rw [num4_sub s (s.size - 4) (by omega), eu] at hu
  have HU := Lib.hid hu
  have hS := fun (W : World) (h : IsTab W tb) => sum_any tb (s.extract 0 (s.size - 4)) W h (by rw [size_sub _ _ _ (by omega)]; omega)
  rw [em] at hS
  have HS1 := Lib.hid hS
  have hy := fun w => pmay s1 s2 s3 ⟨#[]⟩ w
  have k0 : ((s0 : Int) != 1) = false := by rw [h0]; rfl
  rw [hm] at hy
  have HY := Lib.hid hy
  clear hy hm
  have k4 : decide (1048576 < (n : Int)) = true := decide_eq_true (by omega)
  have ty : tb ≠ w.heap.size := by
    have := isTab_lt hc.t
    omega
  have cy : c ≠ w.heap.size := by
    have := At.lt hc.a
    omega
  have ty6 : tb ≠ w.heap.size + 1 := by
    have := isTab_lt hc.t
    omega
  have cy6 : c ≠ w.heap.size + 1 := by
    have := At.lt hc.a
    omega
  have hsl : ∀ W : World, (Instr.slice 9 (.string s) none (some (.int .i64 ((s.size : Int) - 4))) none).run Try.prog W = .ok (.string (s.extract 0 (s.size - 4))) W := fun W => by
    rw [show (s.size : Int) - 4 = ((s.size - 4 : Nat) : Int) by omega]
    go_simp
  have hsr : ∀ W : World, (Instr.slice 9 (.string s) (some (.int .i64 ((s.size : Int) - 4))) none none).run Try.prog W = .ok (.string (s.extract (s.size - 4) s.size)) W := fun W => by
    rw [show (s.size : Int) - 4 = ((s.size - 4 : Nat) : Int) by omega]
    go_simp
  have hsb : ∀ W : World, (Instr.slice 9 (.string s) (some (.int .i64 8)) (some (.int .i64 ((s.size : Int) - 4))) none).run Try.prog W = .ok (.string B) W := fun W => by
    rw [show (s.size : Int) - 4 = ((s.size - 4 : Nat) : Int) by omega, ← eb]
    go_simp
    intro hh
    exfalso
    omega
  clear hc hn hu hS e0 e1 e2 e3 en em eu eb
  go_enter Try.func27, Try.ntmps27
  go_wp2_with (fail)
  go_region
  go_wp2_with (fail)
  have HO := Lib.hid (at_drew (at_alloc (o := .cells #[.int .u8 (s1 : Int), .int .u8 (s2 : Int), .int .u8 (s3 : Int), .string ⟨#[]⟩] 46) (at_new w #[.int .u8 0, .int .u8 0, .int .u8 0, .string ⟨#[]⟩] 46)))
  have HF := Lib.hid (at_drew (at_new (w.alloc (.cells #[.int .u8 0, .int .u8 0, .int .u8 0, .string ⟨#[]⟩] 46)) #[.int .u8 (s1 : Int), .int .u8 (s2 : Int), .int .u8 (s3 : Int), .string ⟨#[]⟩] 46))
  rw [World.size_alloc] at HF
  replace HC := Lib.hid (cod_dr (cod_al (o := .cells #[.int .u8 (s1 : Int), .int .u8 (s2 : Int), .int .u8 (s3 : Int), .string ⟨#[]⟩] 46) (cod_al (o := .cells #[.int .u8 0, .int .u8 0, .int .u8 0, .string ⟨#[]⟩] 46) HC.out)))
  have HG := Lib.hid (chg_drew (chg_alloc (o := .cells #[.int .u8 (s1 : Int), .int .u8 (s2 : Int), .int .u8 (s3 : Int), .string ⟨#[]⟩] 46) (chg_alloc (o := .cells #[.int .u8 0, .int .u8 0, .int .u8 0, .string ⟨#[]⟩] 46) (chg_refl (fun x => x = tb) w))))
  refine (HN.out _).mono ?_
  rintro e w1 ⟨rfl, b1⟩
  replace HO := Lib.hid (at_below HO.out b1)
  replace HF := Lib.hid (at_below HF.out b1)
  replace HC := Lib.hid (cod_below HC.out b1)
  replace HG := Lib.hid (chg_below HG.out b1)
  clear b1
  obtain ⟨x0, x1, x2, x3, f0, f1, f2, f3⟩ := at4 HO.out
  obtain ⟨y0, y1, y2, y3, g0, g1, g2, g3⟩ := at4 HF.out
  go_wp2_with (fail)
  clear x0 x1 x2 x3 f0 f1 f2 f3 y0 y1 y2 y3 g0 g1 g2 g3
  refine (HY.out _).mono ?_
  rintro e w2 ⟨rfl, b1⟩
  replace HO := Lib.hid (at_below HO.out b1)
  replace HF := Lib.hid (at_below HF.out b1)
  replace HC := Lib.hid (cod_below HC.out b1)
  replace HG := Lib.hid (chg_below HG.out b1)
  clear b1
  obtain ⟨x0, x1, x2, x3, f0, f1, f2, f3⟩ := at4 HO.out
  obtain ⟨y0, y1, y2, y3, g0, g1, g2, g3⟩ := at4 HF.out
  go_wp2_with (fail)
  clear x0 x1 x2 x3 f0 f1 f2 f3 y0 y1 y2 y3 g0 g1 g2 g3
  have HS := Lib.hid (at_set4 (v0 := .int .u8 0) (v1 := .int .u8 0) (v2 := .int .u8 0) (v3 := .string ⟨#[]⟩) HO.out)
  have HX : Chg (fun x => x = w.heap.size) w2 (((((w2.setCell ⟨w.heap.size, 0, none⟩ (.int .u8 0)).setCell ⟨w.heap.size, 1, none⟩ (.int .u8 0)).setCell ⟨w.heap.size, 2, none⟩ (.int .u8 0)).setCell ⟨w.heap.size, 3, none⟩ (.string ⟨#[]⟩))) := chg_set (chg_set (chg_set (chg_set (chg_refl _ _) rfl) rfl) rfl) rfl
  have HT2 := Lib.hid (is_chg HC.out.t HX ty)
  have HG2 : Hid (Chg (fun x => x = tb) w (((((w2.setCell ⟨w.heap.size, 0, none⟩ (.int .u8 0)).setCell ⟨w.heap.size, 1, none⟩ (.int .u8 0)).setCell ⟨w.heap.size, 2, none⟩ (.int .u8 0)).setCell ⟨w.heap.size, 3, none⟩ (.string ⟨#[]⟩)))) := Lib.hid (chg_set_new (chg_set_new (chg_set_new (chg_set_new HG.out (Nat.le_refl _)) (Nat.le_refl _)) (Nat.le_refl _)) (Nat.le_refl _))
  clear HX HO HG
  generalize ((((w2.setCell ⟨w.heap.size, 0, none⟩ (.int .u8 0)).setCell ⟨w.heap.size, 1, none⟩ (.int .u8 0)).setCell ⟨w.heap.size, 2, none⟩ (.int .u8 0)).setCell ⟨w.heap.size, 3, none⟩ (.string ⟨#[]⟩)) = wz at *
  obtain ⟨zz0, zz1, zz2, zz3, -⟩ := at4 HS.out
  refine bodyPost_ret (by simp [results, Try.results27, go_sem, zz0, zz1, zz2, zz3]; try rfl) rfl ?_
  exact ⟨rfl, HT2.out, HG2.out⟩
set_option maxRecDepth 100000 in
set_option maxHeartbeats 1600000 in
theorem dec_5 (c tb : Nat) (s : ByteArray) (w : World) (hc : Cod w c tb) (hs : s.size ≤ 999000) (s0 s1 s2 s3 n m u : Nat) (B : ByteArray) (h12 : 12 ≤ s.size) (e0 : by' s 0 = s0) (e1 : by' s 1 = s1) (e2 : by' s 2 = s2) (e3 : by' s 3 = s3) (en : num4 s 4 = n) (em : more 0 (s.extract 0 (s.size - 4)) = m) (eu : num4 s (s.size - 4) = u) (eb : s.extract 8 (s.size - 4) = B) (h0 : s0 = 1) (hm : mayF s1 s2 s3 = true) (h4 : ¬ 1048576 < n) (h5 : s.size < 12 + n) :
    Calls Try.prog 27 #[.pointer (some ⟨c, 0, none⟩), .string s] w fun e w' => e = .returned (decV (0, 0, 0, ⟨#[]⟩, 2)) ∧ IsTab w' tb ∧ Chg (fun x => x = tb) w w' := by
  have c1 : decide ((s.size : Int) < 12) = false := decide_eq_false (by omega)
  have HC := Lib.hid hc
  have l0 : 0 < s.size := by omega
  have l1 : 1 < s.size := by omega
  have l2 : 2 < s.size := by omega
  have l3 : 3 < s.size := by omega
  have a0 := by_at s 0 l0
  have a1 := by_at s 1 l1
  have a2 := by_at s 2 l2
  have a3 := by_at s 3 l3
  rw [e0] at a0
  rw [e1] at a1
  rw [e2] at a2
  rw [e3] at a3
  have hn := fun w => pnumber (s.extract 4 s.size) w (by rw [size_sub _ _ _ (Nat.le_refl _)]; omega)
  rw [num4_sub s 4 (by omega), en] at hn
  have HN := Lib.hid hn
  have hu := fun w => pnumber (s.extract (s.size - 4) s.size) w (by rw [size_sub _ _ _ (Nat.le_refl _)]; omega)
  rw [num4_sub s (s.size - 4) (by omega), eu] at hu
  have HU := Lib.hid hu
  have hS := fun (W : World) (h : IsTab W tb) => sum_any tb (s.extract 0 (s.size - 4)) W h (by rw [size_sub _ _ _ (by omega)]; omega)
  rw [em] at hS
  have HS1 := Lib.hid hS
  have hy := fun w => pmay s1 s2 s3 ⟨#[]⟩ w
  have k0 : ((s0 : Int) != 1) = false := by rw [h0]; rfl
  rw [hm] at hy
  have HY := Lib.hid hy
  clear hy hm
  have k4 : decide (1048576 < (n : Int)) = false := decide_eq_false (by omega)
  have k5 : decide ((s.size : Int) - 4 - 8 < (n : Int)) = true := decide_eq_true (by omega)
  have ty : tb ≠ w.heap.size := by
    have := isTab_lt hc.t
    omega
  have cy : c ≠ w.heap.size := by
    have := At.lt hc.a
    omega
  have ty6 : tb ≠ w.heap.size + 1 := by
    have := isTab_lt hc.t
    omega
  have cy6 : c ≠ w.heap.size + 1 := by
    have := At.lt hc.a
    omega
  have hsl : ∀ W : World, (Instr.slice 9 (.string s) none (some (.int .i64 ((s.size : Int) - 4))) none).run Try.prog W = .ok (.string (s.extract 0 (s.size - 4))) W := fun W => by
    rw [show (s.size : Int) - 4 = ((s.size - 4 : Nat) : Int) by omega]
    go_simp
  have hsr : ∀ W : World, (Instr.slice 9 (.string s) (some (.int .i64 ((s.size : Int) - 4))) none none).run Try.prog W = .ok (.string (s.extract (s.size - 4) s.size)) W := fun W => by
    rw [show (s.size : Int) - 4 = ((s.size - 4 : Nat) : Int) by omega]
    go_simp
  have hsb : ∀ W : World, (Instr.slice 9 (.string s) (some (.int .i64 8)) (some (.int .i64 ((s.size : Int) - 4))) none).run Try.prog W = .ok (.string B) W := fun W => by
    rw [show (s.size : Int) - 4 = ((s.size - 4 : Nat) : Int) by omega, ← eb]
    go_simp
    intro hh
    exfalso
    omega
  clear hc hn hu hS e0 e1 e2 e3 en em eu eb
  go_enter Try.func27, Try.ntmps27
  go_wp2_with (fail)
  go_region
  go_wp2_with (fail)
  have HO := Lib.hid (at_drew (at_alloc (o := .cells #[.int .u8 (s1 : Int), .int .u8 (s2 : Int), .int .u8 (s3 : Int), .string ⟨#[]⟩] 46) (at_new w #[.int .u8 0, .int .u8 0, .int .u8 0, .string ⟨#[]⟩] 46)))
  have HF := Lib.hid (at_drew (at_new (w.alloc (.cells #[.int .u8 0, .int .u8 0, .int .u8 0, .string ⟨#[]⟩] 46)) #[.int .u8 (s1 : Int), .int .u8 (s2 : Int), .int .u8 (s3 : Int), .string ⟨#[]⟩] 46))
  rw [World.size_alloc] at HF
  replace HC := Lib.hid (cod_dr (cod_al (o := .cells #[.int .u8 (s1 : Int), .int .u8 (s2 : Int), .int .u8 (s3 : Int), .string ⟨#[]⟩] 46) (cod_al (o := .cells #[.int .u8 0, .int .u8 0, .int .u8 0, .string ⟨#[]⟩] 46) HC.out)))
  have HG := Lib.hid (chg_drew (chg_alloc (o := .cells #[.int .u8 (s1 : Int), .int .u8 (s2 : Int), .int .u8 (s3 : Int), .string ⟨#[]⟩] 46) (chg_alloc (o := .cells #[.int .u8 0, .int .u8 0, .int .u8 0, .string ⟨#[]⟩] 46) (chg_refl (fun x => x = tb) w))))
  refine (HN.out _).mono ?_
  rintro e w1 ⟨rfl, b1⟩
  replace HO := Lib.hid (at_below HO.out b1)
  replace HF := Lib.hid (at_below HF.out b1)
  replace HC := Lib.hid (cod_below HC.out b1)
  replace HG := Lib.hid (chg_below HG.out b1)
  clear b1
  obtain ⟨x0, x1, x2, x3, f0, f1, f2, f3⟩ := at4 HO.out
  obtain ⟨y0, y1, y2, y3, g0, g1, g2, g3⟩ := at4 HF.out
  go_wp2_with (fail)
  clear x0 x1 x2 x3 f0 f1 f2 f3 y0 y1 y2 y3 g0 g1 g2 g3
  refine (HY.out _).mono ?_
  rintro e w2 ⟨rfl, b1⟩
  replace HO := Lib.hid (at_below HO.out b1)
  replace HF := Lib.hid (at_below HF.out b1)
  replace HC := Lib.hid (cod_below HC.out b1)
  replace HG := Lib.hid (chg_below HG.out b1)
  clear b1
  obtain ⟨x0, x1, x2, x3, f0, f1, f2, f3⟩ := at4 HO.out
  obtain ⟨y0, y1, y2, y3, g0, g1, g2, g3⟩ := at4 HF.out
  go_wp2_with (fail)
  clear x0 x1 x2 x3 f0 f1 f2 f3 y0 y1 y2 y3 g0 g1 g2 g3
  have HS := Lib.hid (at_set4 (v0 := .int .u8 0) (v1 := .int .u8 0) (v2 := .int .u8 0) (v3 := .string ⟨#[]⟩) HO.out)
  have HX : Chg (fun x => x = w.heap.size) w2 (((((w2.setCell ⟨w.heap.size, 0, none⟩ (.int .u8 0)).setCell ⟨w.heap.size, 1, none⟩ (.int .u8 0)).setCell ⟨w.heap.size, 2, none⟩ (.int .u8 0)).setCell ⟨w.heap.size, 3, none⟩ (.string ⟨#[]⟩))) := chg_set (chg_set (chg_set (chg_set (chg_refl _ _) rfl) rfl) rfl) rfl
  have HT2 := Lib.hid (is_chg HC.out.t HX ty)
  have HG2 : Hid (Chg (fun x => x = tb) w (((((w2.setCell ⟨w.heap.size, 0, none⟩ (.int .u8 0)).setCell ⟨w.heap.size, 1, none⟩ (.int .u8 0)).setCell ⟨w.heap.size, 2, none⟩ (.int .u8 0)).setCell ⟨w.heap.size, 3, none⟩ (.string ⟨#[]⟩)))) := Lib.hid (chg_set_new (chg_set_new (chg_set_new (chg_set_new HG.out (Nat.le_refl _)) (Nat.le_refl _)) (Nat.le_refl _)) (Nat.le_refl _))
  clear HX HO HG
  generalize ((((w2.setCell ⟨w.heap.size, 0, none⟩ (.int .u8 0)).setCell ⟨w.heap.size, 1, none⟩ (.int .u8 0)).setCell ⟨w.heap.size, 2, none⟩ (.int .u8 0)).setCell ⟨w.heap.size, 3, none⟩ (.string ⟨#[]⟩)) = wz at *
  obtain ⟨zz0, zz1, zz2, zz3, -⟩ := at4 HS.out
  refine bodyPost_ret (by simp [results, Try.results27, go_sem, zz0, zz1, zz2, zz3]; try rfl) rfl ?_
  exact ⟨rfl, HT2.out, HG2.out⟩
set_option maxRecDepth 100000 in
set_option maxHeartbeats 1600000 in
theorem dec_6 (c tb : Nat) (s : ByteArray) (w : World) (hc : Cod w c tb) (hs : s.size ≤ 999000) (s0 s1 s2 s3 n m u : Nat) (B : ByteArray) (h12 : 12 ≤ s.size) (e0 : by' s 0 = s0) (e1 : by' s 1 = s1) (e2 : by' s 2 = s2) (e3 : by' s 3 = s3) (en : num4 s 4 = n) (em : more 0 (s.extract 0 (s.size - 4)) = m) (eu : num4 s (s.size - 4) = u) (eb : s.extract 8 (s.size - 4) = B) (h0 : s0 = 1) (hm : mayF s1 s2 s3 = true) (h4 : ¬ 1048576 < n) (h5 : ¬ s.size < 12 + n) (h6 : 12 + n < s.size) :
    Calls Try.prog 27 #[.pointer (some ⟨c, 0, none⟩), .string s] w fun e w' => e = .returned (decV (0, 0, 0, ⟨#[]⟩, 3)) ∧ IsTab w' tb ∧ Chg (fun x => x = tb) w w' := by
  have c1 : decide ((s.size : Int) < 12) = false := decide_eq_false (by omega)
  have HC := Lib.hid hc
  have l0 : 0 < s.size := by omega
  have l1 : 1 < s.size := by omega
  have l2 : 2 < s.size := by omega
  have l3 : 3 < s.size := by omega
  have a0 := by_at s 0 l0
  have a1 := by_at s 1 l1
  have a2 := by_at s 2 l2
  have a3 := by_at s 3 l3
  rw [e0] at a0
  rw [e1] at a1
  rw [e2] at a2
  rw [e3] at a3
  have hn := fun w => pnumber (s.extract 4 s.size) w (by rw [size_sub _ _ _ (Nat.le_refl _)]; omega)
  rw [num4_sub s 4 (by omega), en] at hn
  have HN := Lib.hid hn
  have hu := fun w => pnumber (s.extract (s.size - 4) s.size) w (by rw [size_sub _ _ _ (Nat.le_refl _)]; omega)
  rw [num4_sub s (s.size - 4) (by omega), eu] at hu
  have HU := Lib.hid hu
  have hS := fun (W : World) (h : IsTab W tb) => sum_any tb (s.extract 0 (s.size - 4)) W h (by rw [size_sub _ _ _ (by omega)]; omega)
  rw [em] at hS
  have HS1 := Lib.hid hS
  have hy := fun w => pmay s1 s2 s3 ⟨#[]⟩ w
  have k0 : ((s0 : Int) != 1) = false := by rw [h0]; rfl
  rw [hm] at hy
  have HY := Lib.hid hy
  clear hy hm
  have k4 : decide (1048576 < (n : Int)) = false := decide_eq_false (by omega)
  have k5 : decide ((s.size : Int) - 4 - 8 < (n : Int)) = false := decide_eq_false (by omega)
  have k6 : decide ((n : Int) < (s.size : Int) - 4 - 8) = true := decide_eq_true (by omega)
  have ty : tb ≠ w.heap.size := by
    have := isTab_lt hc.t
    omega
  have cy : c ≠ w.heap.size := by
    have := At.lt hc.a
    omega
  have ty6 : tb ≠ w.heap.size + 1 := by
    have := isTab_lt hc.t
    omega
  have cy6 : c ≠ w.heap.size + 1 := by
    have := At.lt hc.a
    omega
  have hsl : ∀ W : World, (Instr.slice 9 (.string s) none (some (.int .i64 ((s.size : Int) - 4))) none).run Try.prog W = .ok (.string (s.extract 0 (s.size - 4))) W := fun W => by
    rw [show (s.size : Int) - 4 = ((s.size - 4 : Nat) : Int) by omega]
    go_simp
  have hsr : ∀ W : World, (Instr.slice 9 (.string s) (some (.int .i64 ((s.size : Int) - 4))) none none).run Try.prog W = .ok (.string (s.extract (s.size - 4) s.size)) W := fun W => by
    rw [show (s.size : Int) - 4 = ((s.size - 4 : Nat) : Int) by omega]
    go_simp
  have hsb : ∀ W : World, (Instr.slice 9 (.string s) (some (.int .i64 8)) (some (.int .i64 ((s.size : Int) - 4))) none).run Try.prog W = .ok (.string B) W := fun W => by
    rw [show (s.size : Int) - 4 = ((s.size - 4 : Nat) : Int) by omega, ← eb]
    go_simp
    intro hh
    exfalso
    omega
  clear hc hn hu hS e0 e1 e2 e3 en em eu eb
  go_enter Try.func27, Try.ntmps27
  go_wp2_with (fail)
  go_region
  go_wp2_with (fail)
  have HO := Lib.hid (at_drew (at_alloc (o := .cells #[.int .u8 (s1 : Int), .int .u8 (s2 : Int), .int .u8 (s3 : Int), .string ⟨#[]⟩] 46) (at_new w #[.int .u8 0, .int .u8 0, .int .u8 0, .string ⟨#[]⟩] 46)))
  have HF := Lib.hid (at_drew (at_new (w.alloc (.cells #[.int .u8 0, .int .u8 0, .int .u8 0, .string ⟨#[]⟩] 46)) #[.int .u8 (s1 : Int), .int .u8 (s2 : Int), .int .u8 (s3 : Int), .string ⟨#[]⟩] 46))
  rw [World.size_alloc] at HF
  replace HC := Lib.hid (cod_dr (cod_al (o := .cells #[.int .u8 (s1 : Int), .int .u8 (s2 : Int), .int .u8 (s3 : Int), .string ⟨#[]⟩] 46) (cod_al (o := .cells #[.int .u8 0, .int .u8 0, .int .u8 0, .string ⟨#[]⟩] 46) HC.out)))
  have HG := Lib.hid (chg_drew (chg_alloc (o := .cells #[.int .u8 (s1 : Int), .int .u8 (s2 : Int), .int .u8 (s3 : Int), .string ⟨#[]⟩] 46) (chg_alloc (o := .cells #[.int .u8 0, .int .u8 0, .int .u8 0, .string ⟨#[]⟩] 46) (chg_refl (fun x => x = tb) w))))
  refine (HN.out _).mono ?_
  rintro e w1 ⟨rfl, b1⟩
  replace HO := Lib.hid (at_below HO.out b1)
  replace HF := Lib.hid (at_below HF.out b1)
  replace HC := Lib.hid (cod_below HC.out b1)
  replace HG := Lib.hid (chg_below HG.out b1)
  clear b1
  obtain ⟨x0, x1, x2, x3, f0, f1, f2, f3⟩ := at4 HO.out
  obtain ⟨y0, y1, y2, y3, g0, g1, g2, g3⟩ := at4 HF.out
  go_wp2_with (fail)
  clear x0 x1 x2 x3 f0 f1 f2 f3 y0 y1 y2 y3 g0 g1 g2 g3
  refine (HY.out _).mono ?_
  rintro e w2 ⟨rfl, b1⟩
  replace HO := Lib.hid (at_below HO.out b1)
  replace HF := Lib.hid (at_below HF.out b1)
  replace HC := Lib.hid (cod_below HC.out b1)
  replace HG := Lib.hid (chg_below HG.out b1)
  clear b1
  obtain ⟨x0, x1, x2, x3, f0, f1, f2, f3⟩ := at4 HO.out
  obtain ⟨y0, y1, y2, y3, g0, g1, g2, g3⟩ := at4 HF.out
  go_wp2_with (fail)
  clear x0 x1 x2 x3 f0 f1 f2 f3 y0 y1 y2 y3 g0 g1 g2 g3
  have HS := Lib.hid (at_set4 (v0 := .int .u8 0) (v1 := .int .u8 0) (v2 := .int .u8 0) (v3 := .string ⟨#[]⟩) HO.out)
  have HX : Chg (fun x => x = w.heap.size) w2 (((((w2.setCell ⟨w.heap.size, 0, none⟩ (.int .u8 0)).setCell ⟨w.heap.size, 1, none⟩ (.int .u8 0)).setCell ⟨w.heap.size, 2, none⟩ (.int .u8 0)).setCell ⟨w.heap.size, 3, none⟩ (.string ⟨#[]⟩))) := chg_set (chg_set (chg_set (chg_set (chg_refl _ _) rfl) rfl) rfl) rfl
  have HT2 := Lib.hid (is_chg HC.out.t HX ty)
  have HG2 : Hid (Chg (fun x => x = tb) w (((((w2.setCell ⟨w.heap.size, 0, none⟩ (.int .u8 0)).setCell ⟨w.heap.size, 1, none⟩ (.int .u8 0)).setCell ⟨w.heap.size, 2, none⟩ (.int .u8 0)).setCell ⟨w.heap.size, 3, none⟩ (.string ⟨#[]⟩)))) := Lib.hid (chg_set_new (chg_set_new (chg_set_new (chg_set_new HG.out (Nat.le_refl _)) (Nat.le_refl _)) (Nat.le_refl _)) (Nat.le_refl _))
  clear HX HO HG
  generalize ((((w2.setCell ⟨w.heap.size, 0, none⟩ (.int .u8 0)).setCell ⟨w.heap.size, 1, none⟩ (.int .u8 0)).setCell ⟨w.heap.size, 2, none⟩ (.int .u8 0)).setCell ⟨w.heap.size, 3, none⟩ (.string ⟨#[]⟩)) = wz at *
  obtain ⟨zz0, zz1, zz2, zz3, -⟩ := at4 HS.out
  refine bodyPost_ret (by simp [results, Try.results27, go_sem, zz0, zz1, zz2, zz3]; try rfl) rfl ?_
  exact ⟨rfl, HT2.out, HG2.out⟩
set_option maxRecDepth 100000 in
set_option maxHeartbeats 1600000 in
theorem dec_7 (c tb : Nat) (s : ByteArray) (w : World) (hc : Cod w c tb) (hs : s.size ≤ 999000) (s0 s1 s2 s3 n m u : Nat) (B : ByteArray) (h12 : 12 ≤ s.size) (e0 : by' s 0 = s0) (e1 : by' s 1 = s1) (e2 : by' s 2 = s2) (e3 : by' s 3 = s3) (en : num4 s 4 = n) (em : more 0 (s.extract 0 (s.size - 4)) = m) (eu : num4 s (s.size - 4) = u) (eb : s.extract 8 (s.size - 4) = B) (h0 : s0 = 1) (hm : mayF s1 s2 s3 = true) (h4 : ¬ 1048576 < n) (h5 : ¬ s.size < 12 + n) (h6 : ¬ 12 + n < s.size) (h7 : ¬ m = u) :
    Calls Try.prog 27 #[.pointer (some ⟨c, 0, none⟩), .string s] w fun e w' => e = .returned (decV (0, 0, 0, ⟨#[]⟩, 5)) ∧ IsTab w' tb ∧ Chg (fun x => x = tb) w w' := by
  have c1 : decide ((s.size : Int) < 12) = false := decide_eq_false (by omega)
  have HC := Lib.hid hc
  have l0 : 0 < s.size := by omega
  have l1 : 1 < s.size := by omega
  have l2 : 2 < s.size := by omega
  have l3 : 3 < s.size := by omega
  have a0 := by_at s 0 l0
  have a1 := by_at s 1 l1
  have a2 := by_at s 2 l2
  have a3 := by_at s 3 l3
  rw [e0] at a0
  rw [e1] at a1
  rw [e2] at a2
  rw [e3] at a3
  have hn := fun w => pnumber (s.extract 4 s.size) w (by rw [size_sub _ _ _ (Nat.le_refl _)]; omega)
  rw [num4_sub s 4 (by omega), en] at hn
  have HN := Lib.hid hn
  have hu := fun w => pnumber (s.extract (s.size - 4) s.size) w (by rw [size_sub _ _ _ (Nat.le_refl _)]; omega)
  rw [num4_sub s (s.size - 4) (by omega), eu] at hu
  have HU := Lib.hid hu
  have hS := fun (W : World) (h : IsTab W tb) => sum_any tb (s.extract 0 (s.size - 4)) W h (by rw [size_sub _ _ _ (by omega)]; omega)
  rw [em] at hS
  have HS1 := Lib.hid hS
  have hy := fun w => pmay s1 s2 s3 ⟨#[]⟩ w
  have k0 : ((s0 : Int) != 1) = false := by rw [h0]; rfl
  rw [hm] at hy
  have HY := Lib.hid hy
  clear hy hm
  have k4 : decide (1048576 < (n : Int)) = false := decide_eq_false (by omega)
  have k5 : decide ((s.size : Int) - 4 - 8 < (n : Int)) = false := decide_eq_false (by omega)
  have k6 : decide ((n : Int) < (s.size : Int) - 4 - 8) = false := decide_eq_false (by omega)
  have k7 : ((m : Int) != (u : Int)) = true := bne_iff_ne.2 (by omega)
  have ty : tb ≠ w.heap.size := by
    have := isTab_lt hc.t
    omega
  have cy : c ≠ w.heap.size := by
    have := At.lt hc.a
    omega
  have ty6 : tb ≠ w.heap.size + 1 := by
    have := isTab_lt hc.t
    omega
  have cy6 : c ≠ w.heap.size + 1 := by
    have := At.lt hc.a
    omega
  have hsl : ∀ W : World, (Instr.slice 9 (.string s) none (some (.int .i64 ((s.size : Int) - 4))) none).run Try.prog W = .ok (.string (s.extract 0 (s.size - 4))) W := fun W => by
    rw [show (s.size : Int) - 4 = ((s.size - 4 : Nat) : Int) by omega]
    go_simp
  have hsr : ∀ W : World, (Instr.slice 9 (.string s) (some (.int .i64 ((s.size : Int) - 4))) none none).run Try.prog W = .ok (.string (s.extract (s.size - 4) s.size)) W := fun W => by
    rw [show (s.size : Int) - 4 = ((s.size - 4 : Nat) : Int) by omega]
    go_simp
  have hsb : ∀ W : World, (Instr.slice 9 (.string s) (some (.int .i64 8)) (some (.int .i64 ((s.size : Int) - 4))) none).run Try.prog W = .ok (.string B) W := fun W => by
    rw [show (s.size : Int) - 4 = ((s.size - 4 : Nat) : Int) by omega, ← eb]
    go_simp
    intro hh
    exfalso
    omega
  clear hc hn hu hS e0 e1 e2 e3 en em eu eb
  go_enter Try.func27, Try.ntmps27
  go_wp2_with (fail)
  go_region
  go_wp2_with (fail)
  have HO := Lib.hid (at_drew (at_alloc (o := .cells #[.int .u8 (s1 : Int), .int .u8 (s2 : Int), .int .u8 (s3 : Int), .string ⟨#[]⟩] 46) (at_new w #[.int .u8 0, .int .u8 0, .int .u8 0, .string ⟨#[]⟩] 46)))
  have HF := Lib.hid (at_drew (at_new (w.alloc (.cells #[.int .u8 0, .int .u8 0, .int .u8 0, .string ⟨#[]⟩] 46)) #[.int .u8 (s1 : Int), .int .u8 (s2 : Int), .int .u8 (s3 : Int), .string ⟨#[]⟩] 46))
  rw [World.size_alloc] at HF
  replace HC := Lib.hid (cod_dr (cod_al (o := .cells #[.int .u8 (s1 : Int), .int .u8 (s2 : Int), .int .u8 (s3 : Int), .string ⟨#[]⟩] 46) (cod_al (o := .cells #[.int .u8 0, .int .u8 0, .int .u8 0, .string ⟨#[]⟩] 46) HC.out)))
  have HG := Lib.hid (chg_drew (chg_alloc (o := .cells #[.int .u8 (s1 : Int), .int .u8 (s2 : Int), .int .u8 (s3 : Int), .string ⟨#[]⟩] 46) (chg_alloc (o := .cells #[.int .u8 0, .int .u8 0, .int .u8 0, .string ⟨#[]⟩] 46) (chg_refl (fun x => x = tb) w))))
  refine (HN.out _).mono ?_
  rintro e w1 ⟨rfl, b1⟩
  replace HO := Lib.hid (at_below HO.out b1)
  replace HF := Lib.hid (at_below HF.out b1)
  replace HC := Lib.hid (cod_below HC.out b1)
  replace HG := Lib.hid (chg_below HG.out b1)
  clear b1
  obtain ⟨x0, x1, x2, x3, f0, f1, f2, f3⟩ := at4 HO.out
  obtain ⟨y0, y1, y2, y3, g0, g1, g2, g3⟩ := at4 HF.out
  go_wp2_with (fail)
  clear x0 x1 x2 x3 f0 f1 f2 f3 y0 y1 y2 y3 g0 g1 g2 g3
  refine (HY.out _).mono ?_
  rintro e w2 ⟨rfl, b1⟩
  replace HO := Lib.hid (at_below HO.out b1)
  replace HF := Lib.hid (at_below HF.out b1)
  replace HC := Lib.hid (cod_below HC.out b1)
  replace HG := Lib.hid (chg_below HG.out b1)
  clear b1
  obtain ⟨x0, x1, x2, x3, f0, f1, f2, f3⟩ := at4 HO.out
  obtain ⟨y0, y1, y2, y3, g0, g1, g2, g3⟩ := at4 HF.out
  go_wp2_with (fail)
  clear x0 x1 x2 x3 f0 f1 f2 f3 y0 y1 y2 y3 g0 g1 g2 g3
  replace HO := Lib.hid (at_drew HO.out)
  replace HF := Lib.hid (at_drew HF.out)
  replace HC := Lib.hid (cod_dr HC.out)
  replace HG := Lib.hid (chg_drew HG.out)
  refine wp_region_held_drew (S := (fun W => W.cell? ⟨c, 0, none⟩ = some (.pointer (some ⟨tb, 0, none⟩)))) (by kernel_rfl) ?_ (fun hHeld => ?_)
  · (try dsimp only)
    exact (at1 HC.out.a).1
  refine Draw.take_w (i := 0) (v := ?vv1) rfl (by kernel_rfl) (by kernel_rfl) (by kernel_rfl) (fun _ _ _ h => h) (by rfl) ?hy1 (by assumption) ?rest1
  case hy1 => ((intro w hSw); (try dsimp only at hSw); go_simp; (try with_reducible rfl))
  (try simp only [Act.put, List.setIfInBounds_toArray, List.set_cons_zero, List.set_cons_succ])
  refine Draw.take_w (i := 1) (v := ?vv2) rfl (by kernel_rfl) (by kernel_rfl) (by kernel_rfl) (fun _ _ _ h => h) (by rfl) ?hy2 (by assumption) ?rest2
  case hy2 => ((intro w hSw); (try dsimp only at hSw); go_simp; (try with_reducible rfl))
  (try simp only [Act.put, List.setIfInBounds_toArray, List.set_cons_zero, List.set_cons_succ])
  refine Draw.take_w (i := 2) (v := ?vv3) rfl (by kernel_rfl) (by kernel_rfl) (by kernel_rfl) (fun _ _ _ h => h) (by rfl) ?hy3 (by assumption) ?rest3
  case hy3 => ((intro w hSw); (try dsimp only at hSw); go_simp; (try with_reducible rfl))
  (try simp only [Act.put, List.setIfInBounds_toArray, List.set_cons_zero, List.set_cons_succ])
  refine Draw.take_w (i := 3) (v := ?vv4) rfl (by kernel_rfl) (by kernel_rfl) (by kernel_rfl) (fun _ _ _ h => h) (by rfl) ?hy4 (by assumption) ?rest4
  case hy4 => ((intro w hSw); (try dsimp only at hSw); go_simp; (try with_reducible rfl))
  (try simp only [Act.put, List.setIfInBounds_toArray, List.set_cons_zero, List.set_cons_succ])
  refine Draw.take_w (i := 4) (v := ?vv5) rfl (by kernel_rfl) (by kernel_rfl) (by kernel_rfl) (fun _ _ _ h => h) (by rfl) ?hy5 (by assumption) ?rest5
  case hy5 => ((intro w hSw); (try dsimp only at hSw); go_simp; (try with_reducible rfl))
  (try simp only [Act.put, List.setIfInBounds_toArray, List.set_cons_zero, List.set_cons_succ])
  refine Draw.take_w (i := 5) (v := ?vv6) rfl (by kernel_rfl) (by kernel_rfl) (by kernel_rfl) (fun _ _ _ h => h) (by rfl) ?hy6 (by assumption) ?rest6
  case hy6 => ((intro w hSw); (try dsimp only at hSw); go_simp; (try with_reducible rfl))
  (try simp only [Act.put, List.setIfInBounds_toArray, List.set_cons_zero, List.set_cons_succ])
  refine Draw.take_w (i := 6) (v := ?vv7) rfl (by kernel_rfl) (by kernel_rfl) (by kernel_rfl) (fun _ _ _ h => h) (by rfl) ?hy7 (by assumption) ?rest7
  case hy7 => ((intro w hSw); (try dsimp only at hSw); go_simp; (try with_reducible rfl))
  (try simp only [Act.put, List.setIfInBounds_toArray, List.set_cons_zero, List.set_cons_succ])
  refine Draw.take_w (i := 8) (v := ?vv8) rfl (by kernel_rfl) (by kernel_rfl) (by kernel_rfl) (fun _ _ _ h => h) (by rfl) ?hy8 (by assumption) ?rest8
  case hy8 => ((intro w hSw); (try dsimp only at hSw); go_simp; (try with_reducible rfl))
  (try simp only [Act.put, List.setIfInBounds_toArray, List.set_cons_zero, List.set_cons_succ])
  refine Draw.take_w (i := 9) (v := ?vv9) rfl (by kernel_rfl) (by kernel_rfl) (by kernel_rfl) (fun _ _ _ h => h) (by rfl) ?hy9 (by assumption) ?rest9
  case hy9 => ((intro w hSw); (try dsimp only at hSw); go_simp; (try with_reducible rfl))
  (try simp only [Act.put, List.setIfInBounds_toArray, List.set_cons_zero, List.set_cons_succ])
  refine Draw.take_w (i := 10) (v := ?vv10) rfl (by kernel_rfl) (by kernel_rfl) (by kernel_rfl) (fun _ _ _ h => h) (by rfl) ?hy10 (by assumption) ?rest10
  case hy10 => ((intro w hSw); (try dsimp only at hSw); go_simp; (try with_reducible rfl))
  (try simp only [Act.put, List.setIfInBounds_toArray, List.set_cons_zero, List.set_cons_succ])
  refine Draw.call_d (i := 7) rfl (by kernel_rfl) (by rfl) (fun K hK => ?_)
  go_simp
  refine (HS1.out _ HC.out.t).mono ?_
  rintro e w3 ⟨rfl, t2, k2⟩
  replace HO := Lib.hid (at_chg HO.out k2 (fun h => ty h.symm))
  replace HF := Lib.hid (at_chg HF.out k2 (fun h => ty6 h.symm))
  replace HC := Lib.hid (cod_chg HC.out (Or.inr t2) k2)
  replace HG := Lib.hid (chg_then HG.out k2)
  clear t2 k2
  refine hK.out _ _ ?_ (fun hHeld => ?_)
  · (try dsimp only)
    exact (at1 HC.out.a).1
  clear hK K
  (try simp only [Act.put, List.setIfInBounds_toArray, List.set_cons_zero, List.set_cons_succ])
  refine Draw.call_d (i := 11) rfl (by kernel_rfl) (by rfl) (fun K hK => ?_)
  go_simp
  refine (HU.out _).mono ?_
  rintro e w4 ⟨rfl, b1⟩
  replace HO := Lib.hid (at_below HO.out b1)
  replace HF := Lib.hid (at_below HF.out b1)
  replace HC := Lib.hid (cod_below HC.out b1)
  replace HG := Lib.hid (chg_below HG.out b1)
  clear b1
  refine hK.out _ _ ?_ (fun hHeld => ?_)
  · (try dsimp only)
    exact (at1 HC.out.a).1
  clear hK K
  (try simp only [Act.put, List.setIfInBounds_toArray, List.set_cons_zero, List.set_cons_succ])
  refine Draw.take_w (i := 12) (v := ?vv11) rfl (by kernel_rfl) (by kernel_rfl) (by kernel_rfl) (fun _ _ _ h => h) (by rfl) ?hy11 (by assumption) ?rest11
  case hy11 => ((intro w hSw); (try dsimp only at hSw); go_simp; (try with_reducible rfl))
  (try simp only [Act.put, List.setIfInBounds_toArray, List.set_cons_zero, List.set_cons_succ])
  refine Draw.take_w (i := 13) (v := ?vv12) rfl (by kernel_rfl) (by kernel_rfl) (by kernel_rfl) (fun _ _ _ h => h) (by rfl) ?hy12 (by assumption) ?rest12
  case hy12 => ((intro w hSw); (try dsimp only at hSw); go_simp; (try with_reducible rfl))
  (try simp only [Act.put, List.setIfInBounds_toArray, List.set_cons_zero, List.set_cons_succ])
  refine wpAnyH_done (by kernel_rfl) ?_ _
  obtain ⟨x0, x1, x2, x3, f0, f1, f2, f3⟩ := at4 HO.out
  obtain ⟨y0, y1, y2, y3, g0, g1, g2, g3⟩ := at4 HF.out
  go_wp2_with (fail)
  clear x0 x1 x2 x3 f0 f1 f2 f3 y0 y1 y2 y3 g0 g1 g2 g3
  have HS := Lib.hid (at_set4 (v0 := .int .u8 0) (v1 := .int .u8 0) (v2 := .int .u8 0) (v3 := .string ⟨#[]⟩) HO.out)
  have HX : Chg (fun x => x = w.heap.size) w4 (((((w4.setCell ⟨w.heap.size, 0, none⟩ (.int .u8 0)).setCell ⟨w.heap.size, 1, none⟩ (.int .u8 0)).setCell ⟨w.heap.size, 2, none⟩ (.int .u8 0)).setCell ⟨w.heap.size, 3, none⟩ (.string ⟨#[]⟩))) := chg_set (chg_set (chg_set (chg_set (chg_refl _ _) rfl) rfl) rfl) rfl
  have HT2 := Lib.hid (is_chg HC.out.t HX ty)
  have HG2 : Hid (Chg (fun x => x = tb) w (((((w4.setCell ⟨w.heap.size, 0, none⟩ (.int .u8 0)).setCell ⟨w.heap.size, 1, none⟩ (.int .u8 0)).setCell ⟨w.heap.size, 2, none⟩ (.int .u8 0)).setCell ⟨w.heap.size, 3, none⟩ (.string ⟨#[]⟩)))) := Lib.hid (chg_set_new (chg_set_new (chg_set_new (chg_set_new HG.out (Nat.le_refl _)) (Nat.le_refl _)) (Nat.le_refl _)) (Nat.le_refl _))
  clear HX HO HG
  generalize ((((w4.setCell ⟨w.heap.size, 0, none⟩ (.int .u8 0)).setCell ⟨w.heap.size, 1, none⟩ (.int .u8 0)).setCell ⟨w.heap.size, 2, none⟩ (.int .u8 0)).setCell ⟨w.heap.size, 3, none⟩ (.string ⟨#[]⟩)) = wz at *
  obtain ⟨zz0, zz1, zz2, zz3, -⟩ := at4 HS.out
  refine bodyPost_ret (by simp [results, Try.results27, go_sem, zz0, zz1, zz2, zz3]; try rfl) rfl ?_
  exact ⟨rfl, HT2.out, HG2.out⟩
set_option maxRecDepth 100000 in
set_option maxHeartbeats 1600000 in
theorem dec_8 (c tb : Nat) (s : ByteArray) (w : World) (hc : Cod w c tb) (hs : s.size ≤ 999000) (s0 s1 s2 s3 n m u : Nat) (B : ByteArray) (h12 : 12 ≤ s.size) (e0 : by' s 0 = s0) (e1 : by' s 1 = s1) (e2 : by' s 2 = s2) (e3 : by' s 3 = s3) (en : num4 s 4 = n) (em : more 0 (s.extract 0 (s.size - 4)) = m) (eu : num4 s (s.size - 4) = u) (eb : s.extract 8 (s.size - 4) = B) (h0 : s0 = 1) (hm : mayF s1 s2 s3 = true) (h4 : ¬ 1048576 < n) (h5 : ¬ s.size < 12 + n) (h6 : ¬ 12 + n < s.size) (h7 : m = u) :
    Calls Try.prog 27 #[.pointer (some ⟨c, 0, none⟩), .string s] w fun e w' => e = .returned (decV (s1, s2, s3, B, 0)) ∧ IsTab w' tb ∧ Chg (fun x => x = tb) w w' := by
  have c1 : decide ((s.size : Int) < 12) = false := decide_eq_false (by omega)
  have HC := Lib.hid hc
  have l0 : 0 < s.size := by omega
  have l1 : 1 < s.size := by omega
  have l2 : 2 < s.size := by omega
  have l3 : 3 < s.size := by omega
  have a0 := by_at s 0 l0
  have a1 := by_at s 1 l1
  have a2 := by_at s 2 l2
  have a3 := by_at s 3 l3
  rw [e0] at a0
  rw [e1] at a1
  rw [e2] at a2
  rw [e3] at a3
  have hn := fun w => pnumber (s.extract 4 s.size) w (by rw [size_sub _ _ _ (Nat.le_refl _)]; omega)
  rw [num4_sub s 4 (by omega), en] at hn
  have HN := Lib.hid hn
  have hu := fun w => pnumber (s.extract (s.size - 4) s.size) w (by rw [size_sub _ _ _ (Nat.le_refl _)]; omega)
  rw [num4_sub s (s.size - 4) (by omega), eu] at hu
  have HU := Lib.hid hu
  have hS := fun (W : World) (h : IsTab W tb) => sum_any tb (s.extract 0 (s.size - 4)) W h (by rw [size_sub _ _ _ (by omega)]; omega)
  rw [em] at hS
  have HS1 := Lib.hid hS
  have hy := fun w => pmay s1 s2 s3 ⟨#[]⟩ w
  have k0 : ((s0 : Int) != 1) = false := by rw [h0]; rfl
  rw [hm] at hy
  have HY := Lib.hid hy
  clear hy hm
  have k4 : decide (1048576 < (n : Int)) = false := decide_eq_false (by omega)
  have k5 : decide ((s.size : Int) - 4 - 8 < (n : Int)) = false := decide_eq_false (by omega)
  have k6 : decide ((n : Int) < (s.size : Int) - 4 - 8) = false := decide_eq_false (by omega)
  have k7 : ((m : Int) != (u : Int)) = false := by rw [h7]; simp
  have ty : tb ≠ w.heap.size := by
    have := isTab_lt hc.t
    omega
  have cy : c ≠ w.heap.size := by
    have := At.lt hc.a
    omega
  have ty6 : tb ≠ w.heap.size + 1 := by
    have := isTab_lt hc.t
    omega
  have cy6 : c ≠ w.heap.size + 1 := by
    have := At.lt hc.a
    omega
  have hsl : ∀ W : World, (Instr.slice 9 (.string s) none (some (.int .i64 ((s.size : Int) - 4))) none).run Try.prog W = .ok (.string (s.extract 0 (s.size - 4))) W := fun W => by
    rw [show (s.size : Int) - 4 = ((s.size - 4 : Nat) : Int) by omega]
    go_simp
  have hsr : ∀ W : World, (Instr.slice 9 (.string s) (some (.int .i64 ((s.size : Int) - 4))) none none).run Try.prog W = .ok (.string (s.extract (s.size - 4) s.size)) W := fun W => by
    rw [show (s.size : Int) - 4 = ((s.size - 4 : Nat) : Int) by omega]
    go_simp
  have hsb : ∀ W : World, (Instr.slice 9 (.string s) (some (.int .i64 8)) (some (.int .i64 ((s.size : Int) - 4))) none).run Try.prog W = .ok (.string B) W := fun W => by
    rw [show (s.size : Int) - 4 = ((s.size - 4 : Nat) : Int) by omega, ← eb]
    go_simp
    intro hh
    exfalso
    omega
  clear hc hn hu hS e0 e1 e2 e3 en em eu eb
  go_enter Try.func27, Try.ntmps27
  go_wp2_with (fail)
  go_region
  go_wp2_with (fail)
  have HO := Lib.hid (at_drew (at_alloc (o := .cells #[.int .u8 (s1 : Int), .int .u8 (s2 : Int), .int .u8 (s3 : Int), .string ⟨#[]⟩] 46) (at_new w #[.int .u8 0, .int .u8 0, .int .u8 0, .string ⟨#[]⟩] 46)))
  have HF := Lib.hid (at_drew (at_new (w.alloc (.cells #[.int .u8 0, .int .u8 0, .int .u8 0, .string ⟨#[]⟩] 46)) #[.int .u8 (s1 : Int), .int .u8 (s2 : Int), .int .u8 (s3 : Int), .string ⟨#[]⟩] 46))
  rw [World.size_alloc] at HF
  replace HC := Lib.hid (cod_dr (cod_al (o := .cells #[.int .u8 (s1 : Int), .int .u8 (s2 : Int), .int .u8 (s3 : Int), .string ⟨#[]⟩] 46) (cod_al (o := .cells #[.int .u8 0, .int .u8 0, .int .u8 0, .string ⟨#[]⟩] 46) HC.out)))
  have HG := Lib.hid (chg_drew (chg_alloc (o := .cells #[.int .u8 (s1 : Int), .int .u8 (s2 : Int), .int .u8 (s3 : Int), .string ⟨#[]⟩] 46) (chg_alloc (o := .cells #[.int .u8 0, .int .u8 0, .int .u8 0, .string ⟨#[]⟩] 46) (chg_refl (fun x => x = tb) w))))
  refine (HN.out _).mono ?_
  rintro e w1 ⟨rfl, b1⟩
  replace HO := Lib.hid (at_below HO.out b1)
  replace HF := Lib.hid (at_below HF.out b1)
  replace HC := Lib.hid (cod_below HC.out b1)
  replace HG := Lib.hid (chg_below HG.out b1)
  clear b1
  obtain ⟨x0, x1, x2, x3, f0, f1, f2, f3⟩ := at4 HO.out
  obtain ⟨y0, y1, y2, y3, g0, g1, g2, g3⟩ := at4 HF.out
  go_wp2_with (fail)
  clear x0 x1 x2 x3 f0 f1 f2 f3 y0 y1 y2 y3 g0 g1 g2 g3
  refine (HY.out _).mono ?_
  rintro e w2 ⟨rfl, b1⟩
  replace HO := Lib.hid (at_below HO.out b1)
  replace HF := Lib.hid (at_below HF.out b1)
  replace HC := Lib.hid (cod_below HC.out b1)
  replace HG := Lib.hid (chg_below HG.out b1)
  clear b1
  obtain ⟨x0, x1, x2, x3, f0, f1, f2, f3⟩ := at4 HO.out
  obtain ⟨y0, y1, y2, y3, g0, g1, g2, g3⟩ := at4 HF.out
  go_wp2_with (fail)
  clear x0 x1 x2 x3 f0 f1 f2 f3 y0 y1 y2 y3 g0 g1 g2 g3
  replace HO := Lib.hid (at_drew HO.out)
  replace HF := Lib.hid (at_drew HF.out)
  replace HC := Lib.hid (cod_dr HC.out)
  replace HG := Lib.hid (chg_drew HG.out)
  refine wp_region_held_drew (S := (fun W => W.cell? ⟨c, 0, none⟩ = some (.pointer (some ⟨tb, 0, none⟩)))) (by kernel_rfl) ?_ (fun hHeld => ?_)
  · (try dsimp only)
    exact (at1 HC.out.a).1
  refine Draw.take_w (i := 0) (v := ?vv13) rfl (by kernel_rfl) (by kernel_rfl) (by kernel_rfl) (fun _ _ _ h => h) (by rfl) ?hy13 (by assumption) ?rest13
  case hy13 => ((intro w hSw); (try dsimp only at hSw); go_simp; (try with_reducible rfl))
  (try simp only [Act.put, List.setIfInBounds_toArray, List.set_cons_zero, List.set_cons_succ])
  refine Draw.take_w (i := 1) (v := ?vv14) rfl (by kernel_rfl) (by kernel_rfl) (by kernel_rfl) (fun _ _ _ h => h) (by rfl) ?hy14 (by assumption) ?rest14
  case hy14 => ((intro w hSw); (try dsimp only at hSw); go_simp; (try with_reducible rfl))
  (try simp only [Act.put, List.setIfInBounds_toArray, List.set_cons_zero, List.set_cons_succ])
  refine Draw.take_w (i := 2) (v := ?vv15) rfl (by kernel_rfl) (by kernel_rfl) (by kernel_rfl) (fun _ _ _ h => h) (by rfl) ?hy15 (by assumption) ?rest15
  case hy15 => ((intro w hSw); (try dsimp only at hSw); go_simp; (try with_reducible rfl))
  (try simp only [Act.put, List.setIfInBounds_toArray, List.set_cons_zero, List.set_cons_succ])
  refine Draw.take_w (i := 3) (v := ?vv16) rfl (by kernel_rfl) (by kernel_rfl) (by kernel_rfl) (fun _ _ _ h => h) (by rfl) ?hy16 (by assumption) ?rest16
  case hy16 => ((intro w hSw); (try dsimp only at hSw); go_simp; (try with_reducible rfl))
  (try simp only [Act.put, List.setIfInBounds_toArray, List.set_cons_zero, List.set_cons_succ])
  refine Draw.take_w (i := 4) (v := ?vv17) rfl (by kernel_rfl) (by kernel_rfl) (by kernel_rfl) (fun _ _ _ h => h) (by rfl) ?hy17 (by assumption) ?rest17
  case hy17 => ((intro w hSw); (try dsimp only at hSw); go_simp; (try with_reducible rfl))
  (try simp only [Act.put, List.setIfInBounds_toArray, List.set_cons_zero, List.set_cons_succ])
  refine Draw.take_w (i := 5) (v := ?vv18) rfl (by kernel_rfl) (by kernel_rfl) (by kernel_rfl) (fun _ _ _ h => h) (by rfl) ?hy18 (by assumption) ?rest18
  case hy18 => ((intro w hSw); (try dsimp only at hSw); go_simp; (try with_reducible rfl))
  (try simp only [Act.put, List.setIfInBounds_toArray, List.set_cons_zero, List.set_cons_succ])
  refine Draw.take_w (i := 6) (v := ?vv19) rfl (by kernel_rfl) (by kernel_rfl) (by kernel_rfl) (fun _ _ _ h => h) (by rfl) ?hy19 (by assumption) ?rest19
  case hy19 => ((intro w hSw); (try dsimp only at hSw); go_simp; (try with_reducible rfl))
  (try simp only [Act.put, List.setIfInBounds_toArray, List.set_cons_zero, List.set_cons_succ])
  refine Draw.take_w (i := 8) (v := ?vv20) rfl (by kernel_rfl) (by kernel_rfl) (by kernel_rfl) (fun _ _ _ h => h) (by rfl) ?hy20 (by assumption) ?rest20
  case hy20 => ((intro w hSw); (try dsimp only at hSw); go_simp; (try with_reducible rfl))
  (try simp only [Act.put, List.setIfInBounds_toArray, List.set_cons_zero, List.set_cons_succ])
  refine Draw.take_w (i := 9) (v := ?vv21) rfl (by kernel_rfl) (by kernel_rfl) (by kernel_rfl) (fun _ _ _ h => h) (by rfl) ?hy21 (by assumption) ?rest21
  case hy21 => ((intro w hSw); (try dsimp only at hSw); go_simp; (try with_reducible rfl))
  (try simp only [Act.put, List.setIfInBounds_toArray, List.set_cons_zero, List.set_cons_succ])
  refine Draw.take_w (i := 10) (v := ?vv22) rfl (by kernel_rfl) (by kernel_rfl) (by kernel_rfl) (fun _ _ _ h => h) (by rfl) ?hy22 (by assumption) ?rest22
  case hy22 => ((intro w hSw); (try dsimp only at hSw); go_simp; (try with_reducible rfl))
  (try simp only [Act.put, List.setIfInBounds_toArray, List.set_cons_zero, List.set_cons_succ])
  refine Draw.call_d (i := 7) rfl (by kernel_rfl) (by rfl) (fun K hK => ?_)
  go_simp
  refine (HS1.out _ HC.out.t).mono ?_
  rintro e w3 ⟨rfl, t2, k2⟩
  replace HO := Lib.hid (at_chg HO.out k2 (fun h => ty h.symm))
  replace HF := Lib.hid (at_chg HF.out k2 (fun h => ty6 h.symm))
  replace HC := Lib.hid (cod_chg HC.out (Or.inr t2) k2)
  replace HG := Lib.hid (chg_then HG.out k2)
  clear t2 k2
  refine hK.out _ _ ?_ (fun hHeld => ?_)
  · (try dsimp only)
    exact (at1 HC.out.a).1
  clear hK K
  (try simp only [Act.put, List.setIfInBounds_toArray, List.set_cons_zero, List.set_cons_succ])
  refine Draw.call_d (i := 11) rfl (by kernel_rfl) (by rfl) (fun K hK => ?_)
  go_simp
  refine (HU.out _).mono ?_
  rintro e w4 ⟨rfl, b1⟩
  replace HO := Lib.hid (at_below HO.out b1)
  replace HF := Lib.hid (at_below HF.out b1)
  replace HC := Lib.hid (cod_below HC.out b1)
  replace HG := Lib.hid (chg_below HG.out b1)
  clear b1
  refine hK.out _ _ ?_ (fun hHeld => ?_)
  · (try dsimp only)
    exact (at1 HC.out.a).1
  clear hK K
  (try simp only [Act.put, List.setIfInBounds_toArray, List.set_cons_zero, List.set_cons_succ])
  refine Draw.take_w (i := 12) (v := ?vv23) rfl (by kernel_rfl) (by kernel_rfl) (by kernel_rfl) (fun _ _ _ h => h) (by rfl) ?hy23 (by assumption) ?rest23
  case hy23 => ((intro w hSw); (try dsimp only at hSw); go_simp; (try with_reducible rfl))
  (try simp only [Act.put, List.setIfInBounds_toArray, List.set_cons_zero, List.set_cons_succ])
  refine Draw.take_w (i := 13) (v := ?vv24) rfl (by kernel_rfl) (by kernel_rfl) (by kernel_rfl) (fun _ _ _ h => h) (by rfl) ?hy24 (by assumption) ?rest24
  case hy24 => ((intro w hSw); (try dsimp only at hSw); go_simp; (try with_reducible rfl))
  (try simp only [Act.put, List.setIfInBounds_toArray, List.set_cons_zero, List.set_cons_succ])
  refine wpAnyH_done (by kernel_rfl) ?_ _
  obtain ⟨x0, x1, x2, x3, f0, f1, f2, f3⟩ := at4 HO.out
  obtain ⟨y0, y1, y2, y3, g0, g1, g2, g3⟩ := at4 HF.out
  go_wp2_with (fail)
  clear x0 x1 x2 x3 f0 f1 f2 f3 y0 y1 y2 y3 g0 g1 g2 g3
  have HX6 : Chg (fun x => x = w.heap.size + 1) w4 (w4.setCell ⟨w.heap.size + 1, 3, none⟩ (.string B)) := chg_set (chg_refl _ _) rfl
  replace HO := Lib.hid (at_set_ne (b' := w.heap.size + 1) (i := 3) (v := .string B) HO.out (by omega))
  replace HC := Lib.hid (cod_far HC.out HX6 cy6 ty6)
  replace HG := Lib.hid (chg_set_new (b := w.heap.size + 1) (i := 3) (v := .string B) HG.out (by omega))
  clear HX6 HF
  generalize w4.setCell ⟨w.heap.size + 1, 3, none⟩ (.string B) = w5 at *
  have HS := Lib.hid (at_set4 (v0 := .int .u8 (s1 : Int)) (v1 := .int .u8 (s2 : Int)) (v2 := .int .u8 (s3 : Int)) (v3 := .string B) HO.out)
  have HX : Chg (fun x => x = w.heap.size) w5 (((((w5.setCell ⟨w.heap.size, 0, none⟩ (.int .u8 (s1 : Int))).setCell ⟨w.heap.size, 1, none⟩ (.int .u8 (s2 : Int))).setCell ⟨w.heap.size, 2, none⟩ (.int .u8 (s3 : Int))).setCell ⟨w.heap.size, 3, none⟩ (.string B))) := chg_set (chg_set (chg_set (chg_set (chg_refl _ _) rfl) rfl) rfl) rfl
  have HT2 := Lib.hid (is_chg HC.out.t HX ty)
  have HG2 : Hid (Chg (fun x => x = tb) w (((((w5.setCell ⟨w.heap.size, 0, none⟩ (.int .u8 (s1 : Int))).setCell ⟨w.heap.size, 1, none⟩ (.int .u8 (s2 : Int))).setCell ⟨w.heap.size, 2, none⟩ (.int .u8 (s3 : Int))).setCell ⟨w.heap.size, 3, none⟩ (.string B)))) := Lib.hid (chg_set_new (chg_set_new (chg_set_new (chg_set_new HG.out (Nat.le_refl _)) (Nat.le_refl _)) (Nat.le_refl _)) (Nat.le_refl _))
  clear HX HO HG
  generalize ((((w5.setCell ⟨w.heap.size, 0, none⟩ (.int .u8 (s1 : Int))).setCell ⟨w.heap.size, 1, none⟩ (.int .u8 (s2 : Int))).setCell ⟨w.heap.size, 2, none⟩ (.int .u8 (s3 : Int))).setCell ⟨w.heap.size, 3, none⟩ (.string B)) = wz at *
  obtain ⟨zz0, zz1, zz2, zz3, -⟩ := at4 HS.out
  refine bodyPost_ret (by simp [results, Try.results27, go_sem, zz0, zz1, zz2, zz3]; try rfl) rfl ?_
  exact ⟨rfl, HT2.out, HG2.out⟩
theorem pdec (c tb : Nat) (s : ByteArray) (w : World) (hc : Cod w c tb) (hs : s.size ≤ 999000) :
    Calls Try.prog 27 #[.pointer (some ⟨c, 0, none⟩), .string s] w fun e w' => e = .returned (decV (decR s)) ∧ IsTab w' tb ∧ Chg (fun x => x = tb) w w' := by
  unfold decR
  by_cases h1 : s.size < 12
  · rw [if_pos h1]; exact dec_short c tb s w hc hs h1
  rw [if_neg h1]
  by_cases h2 : ¬ by' s 0 = 1
  · rw [if_pos h2]; exact dec_2 c tb s w hc hs _ _ _ _ _ _ _ _ (by omega) rfl rfl rfl rfl rfl rfl rfl rfl h2
  rw [if_neg h2]
  have h2 : by' s 0 = 1 := by omega
  by_cases h3 : mayF (by' s 1) (by' s 2) (by' s 3) = false
  · rw [if_pos h3]; exact dec_3 c tb s w hc hs _ _ _ _ _ _ _ _ (by omega) rfl rfl rfl rfl rfl rfl rfl rfl h2 h3
  rw [if_neg h3]
  have h3 : mayF (by' s 1) (by' s 2) (by' s 3) = true := by simpa using h3
  by_cases h4 : 1048576 < num4 s 4
  · rw [if_pos h4]; exact dec_4 c tb s w hc hs _ _ _ _ _ _ _ _ (by omega) rfl rfl rfl rfl rfl rfl rfl rfl h2 h3 h4
  rw [if_neg h4]
  by_cases h5 : s.size < 12 + num4 s 4
  · rw [if_pos h5]; exact dec_5 c tb s w hc hs _ _ _ _ _ _ _ _ (by omega) rfl rfl rfl rfl rfl rfl rfl rfl h2 h3 h4 h5
  rw [if_neg h5]
  by_cases h6 : 12 + num4 s 4 < s.size
  · rw [if_pos h6]; exact dec_6 c tb s w hc hs _ _ _ _ _ _ _ _ (by omega) rfl rfl rfl rfl rfl rfl rfl rfl h2 h3 h4 h5 h6
  rw [if_neg h6]
  by_cases h7 : more 0 (s.extract 0 (s.size - 4)) = num4 s (s.size - 4)
  · rw [if_neg (by omega)]; exact dec_8 c tb s w hc hs _ _ _ _ _ _ _ _ (by omega) rfl rfl rfl rfl rfl rfl rfl rfl h2 h3 h4 h5 h6 h7
  · rw [if_pos h7]; exact dec_7 c tb s w hc hs _ _ _ _ _ _ _ _ (by omega) rfl rfl rfl rfl rfl rfl rfl rfl h2 h3 h4 h5 h6 h7
end Go.Proofs.Ytdjompbhlkgmbaa.Frame
end

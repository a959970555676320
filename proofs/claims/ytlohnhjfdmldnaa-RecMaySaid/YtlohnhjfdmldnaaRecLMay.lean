/- RecMay answers true: the walk (own text; printed by wip/tools/gen_reclaws.py, a program of this session). -/
import Derived.Test.YtlohnhjfdmldnaaRecFixed
import Derived.Test.YtlohnhjfdmldnaaRecGreat
import Derived.Test.YtlohnhjfdmldnaaRecDig
namespace Go.Proofs.Ytlohnhjfdmldnaa.Rec
open Go.Proofs.Ytlohnhjfdmldnaa Go.RowKit Go.Proofs.Ytlohnhjfdmldnaa.Mem Go.Proofs.Ytlohnhjfdmldnaa.Hlc
set_option linter.unusedVariables false
set_option linter.unusedSimpArgs false
theorem may_great (rk : ByteArray) (rp rl rn rd : Nat) (rf rx : Int) (rb : ByteArray) (t : Int) (w : World) (hg : gr rk rb = true) : Calls Try.prog 7 #[.agg #[.string rk, .int .u64 (rp : Int), .int .u32 (rl : Int), .int .u8 (rn : Int), .int .u8 (rd : Int), .int .u32 rf, .int .u64 rx, .string rb], .int .u64 t] w fun e w' => e = .returned (.bool true) ∧ Below w.heap.size w w' := by
  have HG := Lib.hid (fun b t w h => great1 rk rp rl rn rd rf rx rb b t w h)
  rw [hg] at HG
  go_enter Try.func7, Try.ntmps7
  go_wp2_with (fail)
  have hA2 := at_new (w.alloc (.cells #[.string rk, .int .u64 (rp : Int), .int .u32 (rl : Int), .int .u8 (rn : Int), .int .u8 (rd : Int), .int .u32 rf, .int .u64 rx, .string rb] 27)) #[.string rk, .int .u64 (rp : Int), .int .u32 (rl : Int), .int .u8 (rn : Int), .int .u8 (rd : Int), .int .u32 rf, .int .u64 rx, .string rb] 27
  rw [World.size_alloc] at hA2
  refine (HG.out (w.heap.size + 1) _ _ hA2).mono ?_
  rintro e w1 ⟨rfl, b1⟩
  clear hA2
  have HA := Lib.hid (at_below (at_alloc (o := .cells #[.string rk, .int .u64 (rp : Int), .int .u32 (rl : Int), .int .u8 (rn : Int), .int .u8 (rd : Int), .int .u32 rf, .int .u64 rx, .string rb] 27) (at_new w #[.string rk, .int .u64 (rp : Int), .int .u32 (rl : Int), .int .u8 (rn : Int), .int .u8 (rd : Int), .int .u32 rf, .int .u64 rx, .string rb] 27)) b1)
  have HB := Lib.hid (below_on (below_al (o := .cells #[.string rk, .int .u64 (rp : Int), .int .u32 (rl : Int), .int .u8 (rn : Int), .int .u8 (rd : Int), .int .u32 rf, .int .u64 rx, .string rb] 27) (below_al (o := .cells #[.string rk, .int .u64 (rp : Int), .int .u32 (rl : Int), .int .u8 (rn : Int), .int .u8 (rd : Int), .int .u32 rf, .int .u64 rx, .string rb] 27) (Below.refl w.heap.size w))) b1)
  clear b1
  go_wp2_with (fail)
  refine (fixed_any _).mono ?_
  rintro e w2 ⟨rfl, b2⟩
  go_wp2_with (fail)
  go_ret
  exact ⟨rfl, below_on HB.out b2⟩
set_option maxRecDepth 100000 in
set_option maxHeartbeats 1600000 in
theorem may_ok (rk : ByteArray) (rp rl rn rd : Nat) (rf rx : Int) (rb : ByteArray) (t : Int) (w : World) (hg : gr rk rb = false) (hp : rp < 18446744073709551616) (hl : rl < 4294967296) (hn : rn < 256) (hd : rd < 256) : Calls Try.prog 7 #[.agg #[.string rk, .int .u64 (rp : Int), .int .u32 (rl : Int), .int .u8 (rn : Int), .int .u8 (rd : Int), .int .u32 rf, .int .u64 rx, .string rb], .int .u64 t] w fun e w' => e = .returned (.bool true) ∧ Below w.heap.size w w' := by
  have hz : rk.size ≤ 1000000 := by
    have := of_decide_eq_false hg
    omega
  have HG := Lib.hid (fun b t w h => great1 rk rp rl rn rd rf rx rb b t w h)
  rw [hg] at HG
  have H0 := Lib.hid fixed_any
  have H1 := Lib.hid (fun w => key_any rk w hz)
  have H2 := Lib.hid (fun w => refKey_any rk w hz)
  have H3 := Lib.hid (fun w => may_any rk rp rl rn rd rf rx rb w hz)
  have H4 := Lib.hid (fun w => refMay_any rk rp rl rn rd rf rx rb w hz)
  have H5 := Lib.hid (fun w => live_any rk rp rl rn rd rf rx rb t w)
  have H6 := Lib.hid (fun w => refLive_any rk rp rl rn rd rf rx rb t w)
  have H7 := Lib.hid (fun w => dig_any rk rp rl rn rd rf rx rb w hz hp hl hn hd)
  have H8 := Lib.hid (fun w => refDig_any rk rp rl rn rd rf rx rb w hz hp hl hn hd)
  generalize keyMay rk = kb at *
  generalize mayR rk rp rn rd rf rx rb = mb at *
  generalize liveR rd rx t = lb at *
  generalize digN rk rp rl rn rd = dn at *
  go_enter Try.func7, Try.ntmps7
  go_wp2_with (fail)
  have hA2 := at_new (w.alloc (.cells #[.string rk, .int .u64 (rp : Int), .int .u32 (rl : Int), .int .u8 (rn : Int), .int .u8 (rd : Int), .int .u32 rf, .int .u64 rx, .string rb] 27)) #[.string rk, .int .u64 (rp : Int), .int .u32 (rl : Int), .int .u8 (rn : Int), .int .u8 (rd : Int), .int .u32 rf, .int .u64 rx, .string rb] 27
  rw [World.size_alloc] at hA2
  refine (HG.out (w.heap.size + 1) _ _ hA2).mono ?_
  rintro e w1 ⟨rfl, b1⟩
  clear hA2
  have HA := Lib.hid (at_below (at_alloc (o := .cells #[.string rk, .int .u64 (rp : Int), .int .u32 (rl : Int), .int .u8 (rn : Int), .int .u8 (rd : Int), .int .u32 rf, .int .u64 rx, .string rb] 27) (at_new w #[.string rk, .int .u64 (rp : Int), .int .u32 (rl : Int), .int .u8 (rn : Int), .int .u8 (rd : Int), .int .u32 rf, .int .u64 rx, .string rb] 27)) b1)
  have HB := Lib.hid (below_on (below_al (o := .cells #[.string rk, .int .u64 (rp : Int), .int .u32 (rl : Int), .int .u8 (rn : Int), .int .u8 (rd : Int), .int .u32 rf, .int .u64 rx, .string rb] 27) (below_al (o := .cells #[.string rk, .int .u64 (rp : Int), .int .u32 (rl : Int), .int .u8 (rn : Int), .int .u8 (rd : Int), .int .u32 rf, .int .u64 rx, .string rb] 27) (Below.refl w.heap.size w))) b1)
  clear b1
  go_wp2_with (fail)
  replace HA := Lib.hid (at_drew HA.out)
  replace HB := Lib.hid (Below.drew HB.out)
  refine wp_region_held_drew (S := (fun W => W.cell? ⟨w.heap.size, 0, none⟩ = some (.string rk) ∧ W.cell? ⟨w.heap.size, 1, none⟩ = some (.int .u64 (rp : Int)) ∧ W.cell? ⟨w.heap.size, 2, none⟩ = some (.int .u32 (rl : Int)) ∧ W.cell? ⟨w.heap.size, 3, none⟩ = some (.int .u8 (rn : Int)) ∧ W.cell? ⟨w.heap.size, 4, none⟩ = some (.int .u8 (rd : Int)) ∧ W.cell? ⟨w.heap.size, 5, none⟩ = some (.int .u32 rf) ∧ W.cell? ⟨w.heap.size, 6, none⟩ = some (.int .u64 rx) ∧ W.cell? ⟨w.heap.size, 7, none⟩ = some (.string rb))) (by kernel_rfl) ?_ (fun hHeld => ?_)
  · (try dsimp only)
    exact ⟨(at8 HA.out).1, (at8 HA.out).2.1, (at8 HA.out).2.2.1, (at8 HA.out).2.2.2.1, (at8 HA.out).2.2.2.2.1, (at8 HA.out).2.2.2.2.2.1, (at8 HA.out).2.2.2.2.2.2.1, (at8 HA.out).2.2.2.2.2.2.2.1⟩
  refine Draw.call_d (i := 0) rfl (by kernel_rfl) (by rfl) (fun K hK => ?_)
  go_simp
  refine (H0.out _).mono ?_
  rintro e w2 ⟨rfl, b2⟩
  replace HA := Lib.hid (at_below HA.out b2)
  replace HB := Lib.hid (below_on HB.out b2)
  clear b2
  refine hK.out _ _ ?_ (fun hHeld => ?_)
  · (try dsimp only)
    exact ⟨(at8 HA.out).1, (at8 HA.out).2.1, (at8 HA.out).2.2.1, (at8 HA.out).2.2.2.1, (at8 HA.out).2.2.2.2.1, (at8 HA.out).2.2.2.2.2.1, (at8 HA.out).2.2.2.2.2.2.1, (at8 HA.out).2.2.2.2.2.2.2.1⟩
  clear hK K
  (try simp only [Act.put, List.setIfInBounds_toArray, List.set_cons_zero, List.set_cons_succ])
  refine Draw.take_w (i := 1) (v := ?vv1) rfl (by kernel_rfl) (by kernel_rfl) (by kernel_rfl) (fun _ _ _ h => h) (by rfl) ?hy1 (by assumption) ?rest1
  case hy1 => ((intro w hSw); (try dsimp only at hSw); go_simp; (try with_reducible rfl))
  (try simp only [Act.put, List.setIfInBounds_toArray, List.set_cons_zero, List.set_cons_succ])
  refine Draw.take_w (i := 2) (v := ?vv2) rfl (by kernel_rfl) (by kernel_rfl) (by kernel_rfl) (fun _ _ _ h => h) (by rfl) ?hy2 (by assumption) ?rest2
  case hy2 => ((intro w hSw); (try dsimp only at hSw); go_simp; (try with_reducible rfl))
  (try simp only [Act.put, List.setIfInBounds_toArray, List.set_cons_zero, List.set_cons_succ])
  refine Draw.take_w (i := 3) (v := ?vv3) rfl (by kernel_rfl) (by kernel_rfl) (by kernel_rfl) (fun _ _ _ h => h) (by rfl) ?hy3 (by assumption) ?rest3
  case hy3 => ((intro w hSw); (try dsimp only at hSw); go_simp; (try with_reducible rfl))
  (try simp only [Act.put, List.setIfInBounds_toArray, List.set_cons_zero, List.set_cons_succ])
  refine Draw.take_w (i := 5) (v := ?vv4) rfl (by kernel_rfl) (by kernel_rfl) (by kernel_rfl) (fun _ _ _ h => h) (by rfl) ?hy4 (by assumption) ?rest4
  case hy4 => ((intro w hSw); (try dsimp only at hSw); go_simp; (try with_reducible rfl))
  (try simp only [Act.put, List.setIfInBounds_toArray, List.set_cons_zero, List.set_cons_succ])
  refine Draw.take_w (i := 6) (v := ?vv5) rfl (by kernel_rfl) (by kernel_rfl) (by kernel_rfl) (fun _ _ _ h => h) (by rfl) ?hy5 (by assumption) ?rest5
  case hy5 => ((intro w hSw); (try dsimp only at hSw); go_simp; (try with_reducible rfl))
  (try simp only [Act.put, List.setIfInBounds_toArray, List.set_cons_zero, List.set_cons_succ])
  refine Draw.call_d (i := 4) rfl (by kernel_rfl) (by rfl) (fun K hK => ?_)
  go_simp
  refine (H1.out _).mono ?_
  rintro e w3 ⟨rfl, b2⟩
  replace HA := Lib.hid (at_below HA.out b2)
  replace HB := Lib.hid (below_on HB.out b2)
  clear b2
  refine hK.out _ _ ?_ (fun hHeld => ?_)
  · (try dsimp only)
    exact ⟨(at8 HA.out).1, (at8 HA.out).2.1, (at8 HA.out).2.2.1, (at8 HA.out).2.2.2.1, (at8 HA.out).2.2.2.2.1, (at8 HA.out).2.2.2.2.2.1, (at8 HA.out).2.2.2.2.2.2.1, (at8 HA.out).2.2.2.2.2.2.2.1⟩
  clear hK K
  (try simp only [Act.put, List.setIfInBounds_toArray, List.set_cons_zero, List.set_cons_succ])
  refine Draw.call_d (i := 7) rfl (by kernel_rfl) (by rfl) (fun K hK => ?_)
  go_simp
  refine (H2.out _).mono ?_
  rintro e w4 ⟨rfl, b2⟩
  replace HA := Lib.hid (at_below HA.out b2)
  replace HB := Lib.hid (below_on HB.out b2)
  clear b2
  refine hK.out _ _ ?_ (fun hHeld => ?_)
  · (try dsimp only)
    exact ⟨(at8 HA.out).1, (at8 HA.out).2.1, (at8 HA.out).2.2.1, (at8 HA.out).2.2.2.1, (at8 HA.out).2.2.2.2.1, (at8 HA.out).2.2.2.2.2.1, (at8 HA.out).2.2.2.2.2.2.1, (at8 HA.out).2.2.2.2.2.2.2.1⟩
  clear hK K
  (try simp only [Act.put, List.setIfInBounds_toArray, List.set_cons_zero, List.set_cons_succ])
  refine Draw.take_w (i := 8) (v := ?vv6) rfl (by kernel_rfl) (by kernel_rfl) (by kernel_rfl) (fun _ _ _ h => h) (by rfl) ?hy6 (by assumption) ?rest6
  case hy6 => ((intro w hSw); (try dsimp only at hSw); go_simp; (try with_reducible rfl))
  (try simp only [Act.put, List.setIfInBounds_toArray, List.set_cons_zero, List.set_cons_succ])
  refine Draw.take_w (i := 9) (v := ?vv7) rfl (by kernel_rfl) (by kernel_rfl) (by kernel_rfl) (fun _ _ _ h => h) (by rfl) ?hy7 (by assumption) ?rest7
  case hy7 => ((intro w hSw); (try dsimp only at hSw); go_simp; (try with_reducible rfl))
  (try simp only [Act.put, List.setIfInBounds_toArray, List.set_cons_zero, List.set_cons_succ])
  refine Draw.take_w (i := 10) (v := ?vv8) rfl (by kernel_rfl) (by kernel_rfl) (by kernel_rfl) (fun _ _ _ h => h) (by rfl) ?hy8 (by assumption) ?rest8
  case hy8 => ((intro w hSw); (try dsimp only at hSw); go_simp; (try with_reducible rfl))
  (try simp only [Act.put, List.setIfInBounds_toArray, List.set_cons_zero, List.set_cons_succ])
  refine Draw.take_w (i := 11) (v := ?vv9) rfl (by kernel_rfl) (by kernel_rfl) (by kernel_rfl) (fun _ _ _ h => h) (by rfl) ?hy9 (by assumption) ?rest9
  case hy9 => ((intro w hSw); (try dsimp only at hSw); go_simp; (try with_reducible rfl))
  (try simp only [Act.put, List.setIfInBounds_toArray, List.set_cons_zero, List.set_cons_succ])
  refine Draw.take_w (i := 13) (v := ?vv10) rfl (by kernel_rfl) (by kernel_rfl) (by kernel_rfl) (fun _ _ _ h => h) (by rfl) ?hy10 (by assumption) ?rest10
  case hy10 => ((intro w hSw); (try dsimp only at hSw); go_simp; (try with_reducible rfl))
  (try simp only [Act.put, List.setIfInBounds_toArray, List.set_cons_zero, List.set_cons_succ])
  refine Draw.call_d (i := 12) rfl (by kernel_rfl) (by rfl) (fun K hK => ?_)
  go_simp
  refine (H3.out _).mono ?_
  rintro e w5 ⟨rfl, b2⟩
  replace HA := Lib.hid (at_below HA.out b2)
  replace HB := Lib.hid (below_on HB.out b2)
  clear b2
  refine hK.out _ _ ?_ (fun hHeld => ?_)
  · (try dsimp only)
    exact ⟨(at8 HA.out).1, (at8 HA.out).2.1, (at8 HA.out).2.2.1, (at8 HA.out).2.2.2.1, (at8 HA.out).2.2.2.2.1, (at8 HA.out).2.2.2.2.2.1, (at8 HA.out).2.2.2.2.2.2.1, (at8 HA.out).2.2.2.2.2.2.2.1⟩
  clear hK K
  (try simp only [Act.put, List.setIfInBounds_toArray, List.set_cons_zero, List.set_cons_succ])
  refine Draw.call_d (i := 14) rfl (by kernel_rfl) (by rfl) (fun K hK => ?_)
  go_simp
  refine (H4.out _).mono ?_
  rintro e w6 ⟨rfl, b2⟩
  replace HA := Lib.hid (at_below HA.out b2)
  replace HB := Lib.hid (below_on HB.out b2)
  clear b2
  refine hK.out _ _ ?_ (fun hHeld => ?_)
  · (try dsimp only)
    exact ⟨(at8 HA.out).1, (at8 HA.out).2.1, (at8 HA.out).2.2.1, (at8 HA.out).2.2.2.1, (at8 HA.out).2.2.2.2.1, (at8 HA.out).2.2.2.2.2.1, (at8 HA.out).2.2.2.2.2.2.1, (at8 HA.out).2.2.2.2.2.2.2.1⟩
  clear hK K
  (try simp only [Act.put, List.setIfInBounds_toArray, List.set_cons_zero, List.set_cons_succ])
  refine Draw.take_w (i := 15) (v := ?vv11) rfl (by kernel_rfl) (by kernel_rfl) (by kernel_rfl) (fun _ _ _ h => h) (by rfl) ?hy11 (by assumption) ?rest11
  case hy11 => ((intro w hSw); (try dsimp only at hSw); go_simp; (try with_reducible rfl))
  (try simp only [Act.put, List.setIfInBounds_toArray, List.set_cons_zero, List.set_cons_succ])
  refine Draw.take_w (i := 16) (v := ?vv12) rfl (by kernel_rfl) (by kernel_rfl) (by kernel_rfl) (fun _ _ _ h => h) (by rfl) ?hy12 (by assumption) ?rest12
  case hy12 => ((intro w hSw); (try dsimp only at hSw); go_simp; (try with_reducible rfl))
  (try simp only [Act.put, List.setIfInBounds_toArray, List.set_cons_zero, List.set_cons_succ])
  refine Draw.take_w (i := 17) (v := ?vv13) rfl (by kernel_rfl) (by kernel_rfl) (by kernel_rfl) (fun _ _ _ h => h) (by rfl) ?hy13 (by assumption) ?rest13
  case hy13 => ((intro w hSw); (try dsimp only at hSw); go_simp; (try with_reducible rfl))
  (try simp only [Act.put, List.setIfInBounds_toArray, List.set_cons_zero, List.set_cons_succ])
  refine Draw.take_w (i := 18) (v := ?vv14) rfl (by kernel_rfl) (by kernel_rfl) (by kernel_rfl) (fun _ _ _ h => h) (by rfl) ?hy14 (by assumption) ?rest14
  case hy14 => ((intro w hSw); (try dsimp only at hSw); go_simp; (try with_reducible rfl))
  (try simp only [Act.put, List.setIfInBounds_toArray, List.set_cons_zero, List.set_cons_succ])
  refine Draw.take_w (i := 19) (v := ?vv15) rfl (by kernel_rfl) (by kernel_rfl) (by kernel_rfl) (fun _ _ _ h => h) (by rfl) ?hy15 (by assumption) ?rest15
  case hy15 => ((intro w hSw); (try dsimp only at hSw); go_simp; (try with_reducible rfl))
  (try simp only [Act.put, List.setIfInBounds_toArray, List.set_cons_zero, List.set_cons_succ])
  refine Draw.take_w (i := 21) (v := ?vv16) rfl (by kernel_rfl) (by kernel_rfl) (by kernel_rfl) (fun _ _ _ h => h) (by rfl) ?hy16 (by assumption) ?rest16
  case hy16 => ((intro w hSw); (try dsimp only at hSw); go_simp; (try with_reducible rfl))
  (try simp only [Act.put, List.setIfInBounds_toArray, List.set_cons_zero, List.set_cons_succ])
  refine Draw.take_w (i := 22) (v := ?vv17) rfl (by kernel_rfl) (by kernel_rfl) (by kernel_rfl) (fun _ _ _ h => h) (by rfl) ?hy17 (by assumption) ?rest17
  case hy17 => ((intro w hSw); (try dsimp only at hSw); go_simp; (try with_reducible rfl))
  (try simp only [Act.put, List.setIfInBounds_toArray, List.set_cons_zero, List.set_cons_succ])
  refine Draw.call_d (i := 20) rfl (by kernel_rfl) (by rfl) (fun K hK => ?_)
  go_simp
  refine (H5.out _).mono ?_
  rintro e w7 ⟨rfl, b2⟩
  replace HA := Lib.hid (at_below HA.out b2)
  replace HB := Lib.hid (below_on HB.out b2)
  clear b2
  refine hK.out _ _ ?_ (fun hHeld => ?_)
  · (try dsimp only)
    exact ⟨(at8 HA.out).1, (at8 HA.out).2.1, (at8 HA.out).2.2.1, (at8 HA.out).2.2.2.1, (at8 HA.out).2.2.2.2.1, (at8 HA.out).2.2.2.2.2.1, (at8 HA.out).2.2.2.2.2.2.1, (at8 HA.out).2.2.2.2.2.2.2.1⟩
  clear hK K
  (try simp only [Act.put, List.setIfInBounds_toArray, List.set_cons_zero, List.set_cons_succ])
  refine Draw.call_d (i := 23) rfl (by kernel_rfl) (by rfl) (fun K hK => ?_)
  go_simp
  refine (H6.out _).mono ?_
  rintro e w8 ⟨rfl, b2⟩
  replace HA := Lib.hid (at_below HA.out b2)
  replace HB := Lib.hid (below_on HB.out b2)
  clear b2
  refine hK.out _ _ ?_ (fun hHeld => ?_)
  · (try dsimp only)
    exact ⟨(at8 HA.out).1, (at8 HA.out).2.1, (at8 HA.out).2.2.1, (at8 HA.out).2.2.2.1, (at8 HA.out).2.2.2.2.1, (at8 HA.out).2.2.2.2.2.1, (at8 HA.out).2.2.2.2.2.2.1, (at8 HA.out).2.2.2.2.2.2.2.1⟩
  clear hK K
  (try simp only [Act.put, List.setIfInBounds_toArray, List.set_cons_zero, List.set_cons_succ])
  refine Draw.take_w (i := 24) (v := ?vv18) rfl (by kernel_rfl) (by kernel_rfl) (by kernel_rfl) (fun _ _ _ h => h) (by rfl) ?hy18 (by assumption) ?rest18
  case hy18 => ((intro w hSw); (try dsimp only at hSw); go_simp; (try with_reducible rfl))
  (try simp only [Act.put, List.setIfInBounds_toArray, List.set_cons_zero, List.set_cons_succ])
  refine Draw.take_w (i := 25) (v := ?vv19) rfl (by kernel_rfl) (by kernel_rfl) (by kernel_rfl) (fun _ _ _ h => h) (by rfl) ?hy19 (by assumption) ?rest19
  case hy19 => ((intro w hSw); (try dsimp only at hSw); go_simp; (try with_reducible rfl))
  (try simp only [Act.put, List.setIfInBounds_toArray, List.set_cons_zero, List.set_cons_succ])
  refine Draw.take_w (i := 26) (v := ?vv20) rfl (by kernel_rfl) (by kernel_rfl) (by kernel_rfl) (fun _ _ _ h => h) (by rfl) ?hy20 (by assumption) ?rest20
  case hy20 => ((intro w hSw); (try dsimp only at hSw); go_simp; (try with_reducible rfl))
  (try simp only [Act.put, List.setIfInBounds_toArray, List.set_cons_zero, List.set_cons_succ])
  refine Draw.take_w (i := 27) (v := ?vv21) rfl (by kernel_rfl) (by kernel_rfl) (by kernel_rfl) (fun _ _ _ h => h) (by rfl) ?hy21 (by assumption) ?rest21
  case hy21 => ((intro w hSw); (try dsimp only at hSw); go_simp; (try with_reducible rfl))
  (try simp only [Act.put, List.setIfInBounds_toArray, List.set_cons_zero, List.set_cons_succ])
  refine Draw.take_w (i := 29) (v := ?vv22) rfl (by kernel_rfl) (by kernel_rfl) (by kernel_rfl) (fun _ _ _ h => h) (by rfl) ?hy22 (by assumption) ?rest22
  case hy22 => ((intro w hSw); (try dsimp only at hSw); go_simp; (try with_reducible rfl))
  (try simp only [Act.put, List.setIfInBounds_toArray, List.set_cons_zero, List.set_cons_succ])
  refine Draw.call_d (i := 28) rfl (by kernel_rfl) (by rfl) (fun K hK => ?_)
  go_simp
  refine (H7.out _).mono ?_
  rintro e w9 ⟨rfl, b2⟩
  replace HA := Lib.hid (at_below HA.out b2)
  replace HB := Lib.hid (below_on HB.out b2)
  clear b2
  refine hK.out _ _ ?_ (fun hHeld => ?_)
  · (try dsimp only)
    exact ⟨(at8 HA.out).1, (at8 HA.out).2.1, (at8 HA.out).2.2.1, (at8 HA.out).2.2.2.1, (at8 HA.out).2.2.2.2.1, (at8 HA.out).2.2.2.2.2.1, (at8 HA.out).2.2.2.2.2.2.1, (at8 HA.out).2.2.2.2.2.2.2.1⟩
  clear hK K
  (try simp only [Act.put, List.setIfInBounds_toArray, List.set_cons_zero, List.set_cons_succ])
  refine Draw.call_d (i := 30) rfl (by kernel_rfl) (by rfl) (fun K hK => ?_)
  go_simp
  refine (H8.out _).mono ?_
  rintro e w10 ⟨rfl, b2⟩
  replace HA := Lib.hid (at_below HA.out b2)
  replace HB := Lib.hid (below_on HB.out b2)
  clear b2
  refine hK.out _ _ ?_ (fun hHeld => ?_)
  · (try dsimp only)
    exact ⟨(at8 HA.out).1, (at8 HA.out).2.1, (at8 HA.out).2.2.1, (at8 HA.out).2.2.2.1, (at8 HA.out).2.2.2.2.1, (at8 HA.out).2.2.2.2.2.1, (at8 HA.out).2.2.2.2.2.2.1, (at8 HA.out).2.2.2.2.2.2.2.1⟩
  clear hK K
  (try simp only [Act.put, List.setIfInBounds_toArray, List.set_cons_zero, List.set_cons_succ])
  refine Draw.take_w (i := 31) (v := ?vv23) rfl (by kernel_rfl) (by kernel_rfl) (by kernel_rfl) (fun _ _ _ h => h) (by rfl) ?hy23 (by assumption) ?rest23
  case hy23 => ((intro w hSw); (try dsimp only at hSw); go_simp; (try with_reducible rfl))
  (try simp only [Act.put, List.setIfInBounds_toArray, List.set_cons_zero, List.set_cons_succ])
  refine Draw.take_w (i := 32) (v := ?vv24) rfl (by kernel_rfl) (by kernel_rfl) (by kernel_rfl) (fun _ _ _ h => h) (by rfl) ?hy24 (by assumption) ?rest24
  case hy24 => ((intro w hSw); (try dsimp only at hSw); go_simp; (try with_reducible rfl))
  (try simp only [Act.put, List.setIfInBounds_toArray, List.set_cons_zero, List.set_cons_succ])
  refine Draw.take_w (i := 33) (v := ?vv25) rfl (by kernel_rfl) (by kernel_rfl) (by kernel_rfl) (fun _ _ _ h => h) (by rfl) ?hy25 (by assumption) ?rest25
  case hy25 => ((intro w hSw); (try dsimp only at hSw); go_simp; (try with_reducible rfl))
  (try simp only [Act.put, List.setIfInBounds_toArray, List.set_cons_zero, List.set_cons_succ])
  refine wpAnyH_done (by kernel_rfl) ?_ _
  go_wp2_with (fail)
  go_ret
  exact ⟨rfl, HB.out⟩
theorem RecMay_walk (rk : ByteArray) (rp rl rn rd rf rx : Int) (rb : ByteArray) (t : Int) (w : World) (h : (rk.size ≤ maxLen) ∧ (0 ≤ rp ∧ rp ≤ 18446744073709551615) ∧ (0 ≤ rl ∧ rl ≤ 4294967295) ∧ (0 ≤ rn ∧ rn ≤ 255) ∧ (0 ≤ rd ∧ rd ≤ 255) ∧ (0 ≤ rf ∧ rf ≤ 4294967295) ∧ (0 ≤ rx ∧ rx ≤ 18446744073709551615) ∧ (rb.size ≤ maxLen)) :
    Calls Try.prog 7 #[.agg #[.string rk, .int .u64 rp, .int .u32 rl, .int .u8 rn, .int .u8 rd, .int .u32 rf, .int .u64 rx, .string rb], .int .u64 t] w fun e w' => e = .returned (.bool true) ∧ Below w.heap.size w w' := by
  obtain ⟨_, ⟨_, _⟩, ⟨_, _⟩, ⟨_, _⟩, ⟨_, _⟩, _⟩ := h
  obtain ⟨p, rfl⟩ : ∃ n : Nat, rp = n := ⟨rp.toNat, by omega⟩
  obtain ⟨l, rfl⟩ : ∃ n : Nat, rl = n := ⟨rl.toNat, by omega⟩
  obtain ⟨n, rfl⟩ : ∃ m : Nat, rn = m := ⟨rn.toNat, by omega⟩
  obtain ⟨d, rfl⟩ : ∃ n : Nat, rd = n := ⟨rd.toNat, by omega⟩
  cases hg : gr rk rb
  · exact may_ok rk p l n d rf rx rb t w hg (by omega) (by omega) (by omega) (by omega)
  · exact may_great rk p l n d rf rx rb t w hg
end Go.Proofs.Ytlohnhjfdmldnaa.Rec

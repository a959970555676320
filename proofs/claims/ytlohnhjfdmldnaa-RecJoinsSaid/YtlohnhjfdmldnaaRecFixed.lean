/- The chapter's examples of records: the walk (own text; printed by wip/tools/gen_recfixed.py, a program of this session). -/
import Derived.Test.YtlohnhjfdmldnaaRecPut
import Derived.Test.YtlohnhjfdmldnaaRecLive
import Derived.Test.YtlohnhjfdmldnaaDraw
import Derived.Test.YtlohnhjfdmldnaaSets
namespace Go.Proofs.Ytlohnhjfdmldnaa.Rec
open Go.Proofs.Ytlohnhjfdmldnaa Go.RowKit Go.Proofs.Ytlohnhjfdmldnaa.Mem Go.Proofs.Ytlohnhjfdmldnaa.Hlc
set_option linter.unusedVariables false
set_option linter.unusedSimpArgs false
theorem putEx (w : World) : Calls Try.prog 24 #[.agg #[.string ⟨#[97]⟩, .int .u64 1, .int .u32 2, .int .u8 3, .int .u8 1, .int .u32 0, .int .u64 0, .string ⟨#[]⟩]] w fun e w' => e = .returned (.tuple #[.string ⟨#[1, 97, 1, 2, 3, 1]⟩, .int .i64 0]) ∧ Below w.heap.size w w' := by
  have h := recPut_any ⟨#[97]⟩ 1 2 3 1 0 0 ⟨#[]⟩ w (by decide) (by decide)
  have e1 : mayR ⟨#[97]⟩ 1 3 1 0 0 ⟨#[]⟩ = true := by kernel_rfl
  have e2 : recB ⟨#[97]⟩ 1 2 3 1 0 0 ⟨#[]⟩ = ⟨#[1, 97, 1, 2, 3, 1]⟩ := by kernel_rfl
  unfold recE at h
  rw [e1, if_pos rfl, if_pos rfl, e2] at h
  exact h
theorem cmpEx1 (w : World) : Calls Try.prog 12 #[.agg #[.string ⟨#[97]⟩, .int .u64 1, .int .u32 2, .int .u8 3, .int .u8 1, .int .u32 0, .int .u64 0, .string ⟨#[]⟩], .agg #[.string ⟨#[97]⟩, .int .u64 1, .int .u32 2, .int .u8 3, .int .u8 2, .int .u32 0, .int .u64 0, .string ⟨#[]⟩]] w fun e w' => e = .returned (.int .i64 (-1)) ∧ Below w.heap.size w w' := by
  have h := rcompare_any ⟨#[97]⟩ 1 2 3 1 0 0 ⟨#[]⟩ ⟨#[97]⟩ 1 2 3 2 0 0 ⟨#[]⟩ w
  have e1 : cmpR 1 2 3 1 0 0 ⟨#[]⟩ 1 2 3 2 0 0 ⟨#[]⟩ = -1 := by kernel_rfl
  rw [e1] at h
  exact h
theorem cmpEx2 (w : World) : Calls Try.prog 12 #[.agg #[.string ⟨#[97]⟩, .int .u64 1, .int .u32 2, .int .u8 3, .int .u8 3, .int .u32 0, .int .u64 0, .string ⟨#[]⟩], .agg #[.string ⟨#[97]⟩, .int .u64 1, .int .u32 2, .int .u8 3, .int .u8 2, .int .u32 0, .int .u64 0, .string ⟨#[]⟩]] w fun e w' => e = .returned (.int .i64 1) ∧ Below w.heap.size w w' := by
  have h := rcompare_any ⟨#[97]⟩ 1 2 3 3 0 0 ⟨#[]⟩ ⟨#[97]⟩ 1 2 3 2 0 0 ⟨#[]⟩ w
  have e1 : cmpR 1 2 3 3 0 0 ⟨#[]⟩ 1 2 3 2 0 0 ⟨#[]⟩ = 1 := by kernel_rfl
  rw [e1] at h
  exact h
theorem mayEx (w : World) : Calls Try.prog 19 #[.agg #[.string ⟨#[97]⟩, .int .u64 1, .int .u32 2, .int .u8 3, .int .u8 3, .int .u32 0, .int .u64 0, .string ⟨#[]⟩]] w fun e w' => e = .returned (.bool true) ∧ Below w.heap.size w w' := by
  have h := may_any ⟨#[97]⟩ 1 2 3 3 0 0 ⟨#[]⟩ w (by decide)
  have e1 : mayR ⟨#[97]⟩ 1 3 3 0 0 ⟨#[]⟩ = true := by kernel_rfl
  rw [e1] at h
  exact h
theorem liveEx (w : World) : Calls Try.prog 13 #[.agg #[.string ⟨#[97]⟩, .int .u64 1, .int .u32 2, .int .u8 3, .int .u8 3, .int .u32 0, .int .u64 0, .string ⟨#[]⟩], .int .u64 5] w fun e w' => e = .returned (.bool true) ∧ Below w.heap.size w w' := by
  have h := live_any ⟨#[97]⟩ 1 2 3 3 0 0 ⟨#[]⟩ 5 w
  have e1 : liveR 3 0 5 = true := by kernel_rfl
  rw [e1] at h
  exact h
set_option maxRecDepth 100000 in
set_option maxHeartbeats 3200000 in
theorem fixed_any (w : World) : Calls Try.prog 11 #[] w fun e w' => e = .returned (.bool true) ∧ Below w.heap.size w w' := by
  go_enter Try.func11, Try.ntmps11
  go_upto_region 2 with (fail)
  rename_i K hK0
  have HK : ∀ (b6 b7 b8 : Nat) (W : World), Hid (At W b6 #[.string ⟨#[97]⟩, .int .u64 1, .int .u32 2, .int .u8 3, .int .u8 1, .int .u32 0, .int .u64 0, .string ⟨#[]⟩] 27) → Hid (At W b7 #[.string ⟨#[97]⟩, .int .u64 1, .int .u32 2, .int .u8 3, .int .u8 2, .int .u32 0, .int .u64 0, .string ⟨#[]⟩] 27) → Hid (At W b8 #[.string ⟨#[97]⟩, .int .u64 1, .int .u32 2, .int .u8 3, .int .u8 3, .int .u32 0, .int .u64 0, .string ⟨#[]⟩] 27) → Hid (Below w.heap.size w W) → K { tmps := #[.bool false, .pointer (some ⟨w.heap.size, 0, none⟩), .pointer (some ⟨b6, 0, none⟩), .pointer (some ⟨b7, 0, none⟩), .pointer (some ⟨b8, 0, none⟩), undef, undef, .agg #[.int .u64 1, .int .u32 2, .int .u8 3], .agg #[.int .u64 1, .int .u32 2, .int .u8 3], .agg #[.string ⟨#[97]⟩, .int .u64 1, .int .u32 2, .int .u8 3, .int .u8 1, .int .u32 0, .int .u64 0, .string ⟨#[]⟩], .agg #[.int .u64 1, .int .u32 2, .int .u8 3], .agg #[.string ⟨#[97]⟩, .int .u64 1, .int .u32 2, .int .u8 3, .int .u8 2, .int .u32 0, .int .u64 0, .string ⟨#[]⟩], .agg #[.int .u64 1, .int .u32 2, .int .u8 3], .agg #[.string ⟨#[97]⟩, .int .u64 1, .int .u32 2, .int .u8 3, .int .u8 3, .int .u32 0, .int .u64 0, .string ⟨#[]⟩], undef, undef, undef, undef, undef, undef, undef, undef, undef, undef, undef, undef, undef, undef, undef, undef, undef, undef, undef, undef, undef, undef, undef, undef, undef, undef, undef, undef, undef, undef, undef], defers := [] } W := by
    intro b6 b7 b8 W H6 H7 H8 HB
    refine hK0 _ _ ?_
    obtain ⟨x0, x1, x2, x3, x4, x5, x6, x7, -⟩ := at8 H6.out
    obtain ⟨y0, y1, y2, y3, y4, y5, y6, y7, -⟩ := at8 H7.out
    obtain ⟨z0, z1, z2, z3, z4, z5, z6, z7, -⟩ := at8 H8.out
    go_wp2_with (fail)
    clear x0 x1 x2 x3 x4 x5 x6 x7 y0 y1 y2 y3 y4 y5 y6 y7 z0 z1 z2 z3 z4 z5 z6 z7
    refine (putEx _).mono ?_
    rintro e w1 ⟨rfl, c2⟩
    replace HB := Lib.hid (below_on HB.out c2)
    replace H6 := Lib.hid (at_below H6.out c2)
    replace H7 := Lib.hid (at_below H7.out c2)
    replace H8 := Lib.hid (at_below H8.out c2)
    clear c2
    obtain ⟨x0, x1, x2, x3, x4, x5, x6, x7, -⟩ := at8 H6.out
    obtain ⟨y0, y1, y2, y3, y4, y5, y6, y7, -⟩ := at8 H7.out
    obtain ⟨z0, z1, z2, z3, z4, z5, z6, z7, -⟩ := at8 H8.out
    go_wp2_with (fail)
    clear x0 x1 x2 x3 x4 x5 x6 x7 y0 y1 y2 y3 y4 y5 y6 y7 z0 z1 z2 z3 z4 z5 z6 z7
    refine (cmpEx1 _).mono ?_
    rintro e w2 ⟨rfl, c2⟩
    replace HB := Lib.hid (below_on HB.out c2)
    replace H6 := Lib.hid (at_below H6.out c2)
    replace H7 := Lib.hid (at_below H7.out c2)
    replace H8 := Lib.hid (at_below H8.out c2)
    clear c2
    obtain ⟨x0, x1, x2, x3, x4, x5, x6, x7, -⟩ := at8 H6.out
    obtain ⟨y0, y1, y2, y3, y4, y5, y6, y7, -⟩ := at8 H7.out
    obtain ⟨z0, z1, z2, z3, z4, z5, z6, z7, -⟩ := at8 H8.out
    go_wp2_with (fail)
    clear x0 x1 x2 x3 x4 x5 x6 x7 y0 y1 y2 y3 y4 y5 y6 y7 z0 z1 z2 z3 z4 z5 z6 z7
    refine (cmpEx2 _).mono ?_
    rintro e w3 ⟨rfl, c2⟩
    replace HB := Lib.hid (below_on HB.out c2)
    replace H6 := Lib.hid (at_below H6.out c2)
    replace H7 := Lib.hid (at_below H7.out c2)
    replace H8 := Lib.hid (at_below H8.out c2)
    clear c2
    obtain ⟨x0, x1, x2, x3, x4, x5, x6, x7, -⟩ := at8 H6.out
    obtain ⟨y0, y1, y2, y3, y4, y5, y6, y7, -⟩ := at8 H7.out
    obtain ⟨z0, z1, z2, z3, z4, z5, z6, z7, -⟩ := at8 H8.out
    go_wp2_with (fail)
    clear x0 x1 x2 x3 x4 x5 x6 x7 y0 y1 y2 y3 y4 y5 y6 y7 z0 z1 z2 z3 z4 z5 z6 z7
    refine (mayEx _).mono ?_
    rintro e w4 ⟨rfl, c2⟩
    replace HB := Lib.hid (below_on HB.out c2)
    replace H6 := Lib.hid (at_below H6.out c2)
    replace H7 := Lib.hid (at_below H7.out c2)
    replace H8 := Lib.hid (at_below H8.out c2)
    clear c2
    obtain ⟨x0, x1, x2, x3, x4, x5, x6, x7, -⟩ := at8 H6.out
    obtain ⟨y0, y1, y2, y3, y4, y5, y6, y7, -⟩ := at8 H7.out
    obtain ⟨z0, z1, z2, z3, z4, z5, z6, z7, -⟩ := at8 H8.out
    go_wp2_with (fail)
    clear x0 x1 x2 x3 x4 x5 x6 x7 y0 y1 y2 y3 y4 y5 y6 y7 z0 z1 z2 z3 z4 z5 z6 z7
    refine (liveEx _).mono ?_
    rintro e w5 ⟨rfl, c2⟩
    replace HB := Lib.hid (below_on HB.out c2)
    replace H6 := Lib.hid (at_below H6.out c2)
    replace H7 := Lib.hid (at_below H7.out c2)
    replace H8 := Lib.hid (at_below H8.out c2)
    clear c2
    go_wp2_with (fail)
    go_ret
    exact ⟨rfl, HB.out⟩
  have HK1 := Lib.hid HK
  clear HK hK0
  have HX := Lib.hid (at_drew (at_new w #[.int .u64 1, .int .u32 2, .int .u8 3] 25))
  have HB := Lib.hid (Below.drew (below_al (o := .cells #[.int .u64 1, .int .u32 2, .int .u8 3] 25) (Below.refl w.heap.size w)))
  refine wp_region_held_drew (S := (fun W => W.cell? ⟨w.heap.size, 0, none⟩ = some (.int .u64 1) ∧ W.cell? ⟨w.heap.size, 1, none⟩ = some (.int .u32 2) ∧ W.cell? ⟨w.heap.size, 2, none⟩ = some (.int .u8 3))) (by kernel_rfl) ?_ (fun hHeld => ?_)
  · (try dsimp only)
    exact ⟨(at3 HX.out).1, (at3 HX.out).2.1, (at3 HX.out).2.2.1⟩
  refine Draw.take_w (i := 0) (v := ?vv1) rfl (by kernel_rfl) (by kernel_rfl) (by kernel_rfl) (fun _ _ _ h => h) (by rfl) ?hy1 (by assumption) ?rest1
  case hy1 => ((intro w hSw); (try dsimp only at hSw); go_simp; (try with_reducible rfl))
  (try simp only [Act.put, List.setIfInBounds_toArray, List.set_cons_zero, List.set_cons_succ])
  refine Draw.take_w (i := 1) (v := ?vv2) rfl (by kernel_rfl) (by kernel_rfl) (by kernel_rfl) (fun _ _ _ h => h) (by rfl) ?hy2 (by assumption) ?rest2
  case hy2 => ((intro w hSw); (try dsimp only at hSw); go_simp; (try with_reducible rfl))
  (try simp only [Act.put, List.setIfInBounds_toArray, List.set_cons_zero, List.set_cons_succ])
  refine Draw.take_w (i := 2) (v := ?vv3) rfl (by kernel_rfl) (by kernel_rfl) (by kernel_rfl) (fun _ _ _ h => h) (by rfl) ?hy3 (by assumption) ?rest3
  case hy3 => ((intro w hSw); (try dsimp only at hSw); go_simp; (try with_reducible rfl))
  (try simp only [Act.put, List.setIfInBounds_toArray, List.set_cons_zero, List.set_cons_succ])
  refine Draw.take_w (i := 3) (v := ?vv4) rfl (by kernel_rfl) (by kernel_rfl) (by kernel_rfl) (fun _ _ _ h => h) (by rfl) ?hy4 (by assumption) ?rest4
  case hy4 => ((intro w hSw); (try dsimp only at hSw); go_simp; (try with_reducible rfl))
  (try simp only [Act.put, List.setIfInBounds_toArray, List.set_cons_zero, List.set_cons_succ])
  refine Draw.take_w (i := 4) (v := ?vv5) rfl (by kernel_rfl) (by kernel_rfl) (by kernel_rfl) (fun _ _ _ h => h) (by rfl) ?hy5 (by assumption) ?rest5
  case hy5 => ((intro w hSw); (try dsimp only at hSw); go_simp; (try with_reducible rfl))
  (try simp only [Act.put, List.setIfInBounds_toArray, List.set_cons_zero, List.set_cons_succ])
  refine Draw.take_w (i := 5) (v := ?vv6) rfl (by kernel_rfl) (by kernel_rfl) (by kernel_rfl) (fun _ _ _ h => h) (by rfl) ?hy6 (by assumption) ?rest6
  case hy6 => ((intro w hSw); (try dsimp only at hSw); go_simp; (try with_reducible rfl))
  (try simp only [Act.put, List.setIfInBounds_toArray, List.set_cons_zero, List.set_cons_succ])
  have hx0 : w.heap.size < ((w.alloc (.cells #[.int .u64 1, .int .u32 2, .int .u8 3] 25)).drew).heap.size := At.lt HX.out
  clear hHeld
  generalize (w.alloc (.cells #[.int .u64 1, .int .u32 2, .int .u8 3] 25)).drew = W0 at *
  refine wpAnyH_ready (rs := [6, 7, 8]) (by kernel_rfl) (by simp) (AllReadyH.cons (Draw.nth (i := 6) rfl) ?r0_6 (AllReadyH.cons (Draw.nth (i := 7) rfl) ?r0_7 (AllReadyH.cons (Draw.nth (i := 8) rfl) ?r0_8 (AllReadyH.nil))))
  case r0_6 =>
    intro K' hK'
    rw [if_pos (by rfl)]
    go_simp
    have hk2 := Lib.hid hK'.out
    have H6 := Lib.hid (at_new W0 #[.string ⟨#[]⟩, .int .u64 0, .int .u32 0, .int .u8 0, .int .u8 0, .int .u32 0, .int .u64 0, .string ⟨#[]⟩] 27)
    replace HX := Lib.hid (at_alloc (o := .cells #[.string ⟨#[]⟩, .int .u64 0, .int .u32 0, .int .u8 0, .int .u8 0, .int .u32 0, .int .u64 0, .string ⟨#[]⟩] 27) HX.out)
    replace HB := Lib.hid (below_al (o := .cells #[.string ⟨#[]⟩, .int .u64 0, .int .u32 0, .int .u8 0, .int .u8 0, .int .u32 0, .int .u64 0, .string ⟨#[]⟩] 27) HB.out)
    refine hk2.out _ _ ?_ (fun hHeld => ?_)
    · (try dsimp only)
      exact ⟨(at3 HX.out).1, (at3 HX.out).2.1, (at3 HX.out).2.2.1⟩
    clear hK' hk2 K' hHeld
    (try simp only [Act.put, List.setIfInBounds_toArray, List.set_cons_zero, List.set_cons_succ])
    have l6 : W0.heap.size < (W0.alloc (.cells #[.string ⟨#[]⟩, .int .u64 0, .int .u32 0, .int .u8 0, .int .u8 0, .int .u32 0, .int .u64 0, .string ⟨#[]⟩] 27)).heap.size := At.lt H6.out
    generalize W0.alloc (.cells #[.string ⟨#[]⟩, .int .u64 0, .int .u32 0, .int .u8 0, .int .u8 0, .int .u32 0, .int .u64 0, .string ⟨#[]⟩] 27) = W1 at *
    generalize W0.heap.size = b6 at *
    refine wpAnyH_ready (rs := [7, 8]) (by kernel_rfl) (by simp) (AllReadyH.cons (Draw.nth (i := 7) rfl) ?r6_7 (AllReadyH.cons (Draw.nth (i := 8) rfl) ?r6_8 (AllReadyH.nil)))
    case r6_7 =>
      intro K' hK'
      rw [if_pos (by rfl)]
      go_simp
      have hk2 := Lib.hid hK'.out
      have H7 := Lib.hid (at_new W1 #[.string ⟨#[]⟩, .int .u64 0, .int .u32 0, .int .u8 0, .int .u8 0, .int .u32 0, .int .u64 0, .string ⟨#[]⟩] 27)
      replace HX := Lib.hid (at_alloc (o := .cells #[.string ⟨#[]⟩, .int .u64 0, .int .u32 0, .int .u8 0, .int .u8 0, .int .u32 0, .int .u64 0, .string ⟨#[]⟩] 27) HX.out)
      replace H6 := Lib.hid (at_alloc (o := .cells #[.string ⟨#[]⟩, .int .u64 0, .int .u32 0, .int .u8 0, .int .u8 0, .int .u32 0, .int .u64 0, .string ⟨#[]⟩] 27) H6.out)
      replace HB := Lib.hid (below_al (o := .cells #[.string ⟨#[]⟩, .int .u64 0, .int .u32 0, .int .u8 0, .int .u8 0, .int .u32 0, .int .u64 0, .string ⟨#[]⟩] 27) HB.out)
      refine hk2.out _ _ ?_ (fun hHeld => ?_)
      · (try dsimp only)
        exact ⟨(at3 HX.out).1, (at3 HX.out).2.1, (at3 HX.out).2.2.1⟩
      clear hK' hk2 K' hHeld
      (try simp only [Act.put, List.setIfInBounds_toArray, List.set_cons_zero, List.set_cons_succ])
      have l7 : W1.heap.size < (W1.alloc (.cells #[.string ⟨#[]⟩, .int .u64 0, .int .u32 0, .int .u8 0, .int .u8 0, .int .u32 0, .int .u64 0, .string ⟨#[]⟩] 27)).heap.size := At.lt H7.out
      generalize W1.alloc (.cells #[.string ⟨#[]⟩, .int .u64 0, .int .u32 0, .int .u8 0, .int .u8 0, .int .u32 0, .int .u64 0, .string ⟨#[]⟩] 27) = W2 at *
      generalize W1.heap.size = b7 at *
      refine wpAnyH_ready (rs := [8]) (by kernel_rfl) (by simp) (AllReadyH.cons (Draw.nth (i := 8) rfl) ?r6_7_8 (AllReadyH.nil))
      case r6_7_8 =>
        intro K' hK'
        rw [if_pos (by rfl)]
        go_simp
        have hk2 := Lib.hid hK'.out
        have H8 := Lib.hid (at_new W2 #[.string ⟨#[]⟩, .int .u64 0, .int .u32 0, .int .u8 0, .int .u8 0, .int .u32 0, .int .u64 0, .string ⟨#[]⟩] 27)
        replace HX := Lib.hid (at_alloc (o := .cells #[.string ⟨#[]⟩, .int .u64 0, .int .u32 0, .int .u8 0, .int .u8 0, .int .u32 0, .int .u64 0, .string ⟨#[]⟩] 27) HX.out)
        replace H6 := Lib.hid (at_alloc (o := .cells #[.string ⟨#[]⟩, .int .u64 0, .int .u32 0, .int .u8 0, .int .u8 0, .int .u32 0, .int .u64 0, .string ⟨#[]⟩] 27) H6.out)
        replace H7 := Lib.hid (at_alloc (o := .cells #[.string ⟨#[]⟩, .int .u64 0, .int .u32 0, .int .u8 0, .int .u8 0, .int .u32 0, .int .u64 0, .string ⟨#[]⟩] 27) H7.out)
        replace HB := Lib.hid (below_al (o := .cells #[.string ⟨#[]⟩, .int .u64 0, .int .u32 0, .int .u8 0, .int .u8 0, .int .u32 0, .int .u64 0, .string ⟨#[]⟩] 27) HB.out)
        refine hk2.out _ _ ?_ (fun hHeld => ?_)
        · (try dsimp only)
          exact ⟨(at3 HX.out).1, (at3 HX.out).2.1, (at3 HX.out).2.2.1⟩
        clear hK' hk2 K' hHeld
        (try simp only [Act.put, List.setIfInBounds_toArray, List.set_cons_zero, List.set_cons_succ])
        have l8 : W2.heap.size < (W2.alloc (.cells #[.string ⟨#[]⟩, .int .u64 0, .int .u32 0, .int .u8 0, .int .u8 0, .int .u32 0, .int .u64 0, .string ⟨#[]⟩] 27)).heap.size := At.lt H8.out
        generalize W2.alloc (.cells #[.string ⟨#[]⟩, .int .u64 0, .int .u32 0, .int .u8 0, .int .u8 0, .int .u32 0, .int .u64 0, .string ⟨#[]⟩] 27) = W3 at *
        generalize W2.heap.size = b8 at *
        obtain ⟨x0, x1, x2, x3, x4, x5, x6, x7, y0, y1, y2, y3, y4, y5, y6, y7⟩ := at8 H6.out
        refine Draw.call_d (i := 9) rfl (by kernel_rfl) (by rfl) (fun K' hK' => ?_)
        go_simp
        have hk2 := Lib.hid hK'.out
        replace HX := Lib.hid (at_set8_ne (v0 := .string ⟨#[97]⟩) (v1 := .int .u64 1) (v2 := .int .u32 2) (v3 := .int .u8 3) (v4 := .int .u8 1) (v5 := .int .u32 0) (v6 := .int .u64 0) (v7 := .string ⟨#[]⟩) HX.out (show w.heap.size ≠ b6 by omega))
        replace H7 := Lib.hid (at_set8_ne (v0 := .string ⟨#[97]⟩) (v1 := .int .u64 1) (v2 := .int .u32 2) (v3 := .int .u8 3) (v4 := .int .u8 1) (v5 := .int .u32 0) (v6 := .int .u64 0) (v7 := .string ⟨#[]⟩) H7.out (show b7 ≠ b6 by omega))
        replace H8 := Lib.hid (at_set8_ne (v0 := .string ⟨#[97]⟩) (v1 := .int .u64 1) (v2 := .int .u32 2) (v3 := .int .u8 3) (v4 := .int .u8 1) (v5 := .int .u32 0) (v6 := .int .u64 0) (v7 := .string ⟨#[]⟩) H8.out (show b8 ≠ b6 by omega))
        replace H6 := Lib.hid (at_set8 (v0 := .string ⟨#[97]⟩) (v1 := .int .u64 1) (v2 := .int .u32 2) (v3 := .int .u8 3) (v4 := .int .u8 1) (v5 := .int .u32 0) (v6 := .int .u64 0) (v7 := .string ⟨#[]⟩) H6.out)
        replace HB := Lib.hid (below_set8 (v0 := .string ⟨#[97]⟩) (v1 := .int .u64 1) (v2 := .int .u32 2) (v3 := .int .u8 3) (v4 := .int .u8 1) (v5 := .int .u32 0) (v6 := .int .u64 0) (v7 := .string ⟨#[]⟩) HB.out (show w.heap.size ≤ b6 by omega))
        refine hk2.out _ _ ?_ (fun hHeld => ?_)
        · (try dsimp only)
          exact ⟨(at3 HX.out).1, (at3 HX.out).2.1, (at3 HX.out).2.2.1⟩
        clear hK' hk2 K' hHeld x0 x1 x2 x3 x4 x5 x6 x7 y0 y1 y2 y3 y4 y5 y6 y7
        (try simp only [Act.put, List.setIfInBounds_toArray, List.set_cons_zero, List.set_cons_succ])
        generalize ((((((((W3.setCell ⟨b6, 0, none⟩ (.string ⟨#[97]⟩)).setCell ⟨b6, 1, none⟩ (.int .u64 1)).setCell ⟨b6, 2, none⟩ (.int .u32 2)).setCell ⟨b6, 3, none⟩ (.int .u8 3)).setCell ⟨b6, 4, none⟩ (.int .u8 1)).setCell ⟨b6, 5, none⟩ (.int .u32 0)).setCell ⟨b6, 6, none⟩ (.int .u64 0)).setCell ⟨b6, 7, none⟩ (.string ⟨#[]⟩)) = W4 at *
        obtain ⟨x0, x1, x2, x3, x4, x5, x6, x7, y0, y1, y2, y3, y4, y5, y6, y7⟩ := at8 H7.out
        refine Draw.call_d (i := 10) rfl (by kernel_rfl) (by rfl) (fun K' hK' => ?_)
        go_simp
        have hk2 := Lib.hid hK'.out
        replace HX := Lib.hid (at_set8_ne (v0 := .string ⟨#[97]⟩) (v1 := .int .u64 1) (v2 := .int .u32 2) (v3 := .int .u8 3) (v4 := .int .u8 2) (v5 := .int .u32 0) (v6 := .int .u64 0) (v7 := .string ⟨#[]⟩) HX.out (show w.heap.size ≠ b7 by omega))
        replace H6 := Lib.hid (at_set8_ne (v0 := .string ⟨#[97]⟩) (v1 := .int .u64 1) (v2 := .int .u32 2) (v3 := .int .u8 3) (v4 := .int .u8 2) (v5 := .int .u32 0) (v6 := .int .u64 0) (v7 := .string ⟨#[]⟩) H6.out (show b6 ≠ b7 by omega))
        replace H8 := Lib.hid (at_set8_ne (v0 := .string ⟨#[97]⟩) (v1 := .int .u64 1) (v2 := .int .u32 2) (v3 := .int .u8 3) (v4 := .int .u8 2) (v5 := .int .u32 0) (v6 := .int .u64 0) (v7 := .string ⟨#[]⟩) H8.out (show b8 ≠ b7 by omega))
        replace H7 := Lib.hid (at_set8 (v0 := .string ⟨#[97]⟩) (v1 := .int .u64 1) (v2 := .int .u32 2) (v3 := .int .u8 3) (v4 := .int .u8 2) (v5 := .int .u32 0) (v6 := .int .u64 0) (v7 := .string ⟨#[]⟩) H7.out)
        replace HB := Lib.hid (below_set8 (v0 := .string ⟨#[97]⟩) (v1 := .int .u64 1) (v2 := .int .u32 2) (v3 := .int .u8 3) (v4 := .int .u8 2) (v5 := .int .u32 0) (v6 := .int .u64 0) (v7 := .string ⟨#[]⟩) HB.out (show w.heap.size ≤ b7 by omega))
        refine hk2.out _ _ ?_ (fun hHeld => ?_)
        · (try dsimp only)
          exact ⟨(at3 HX.out).1, (at3 HX.out).2.1, (at3 HX.out).2.2.1⟩
        clear hK' hk2 K' hHeld x0 x1 x2 x3 x4 x5 x6 x7 y0 y1 y2 y3 y4 y5 y6 y7
        (try simp only [Act.put, List.setIfInBounds_toArray, List.set_cons_zero, List.set_cons_succ])
        generalize ((((((((W4.setCell ⟨b7, 0, none⟩ (.string ⟨#[97]⟩)).setCell ⟨b7, 1, none⟩ (.int .u64 1)).setCell ⟨b7, 2, none⟩ (.int .u32 2)).setCell ⟨b7, 3, none⟩ (.int .u8 3)).setCell ⟨b7, 4, none⟩ (.int .u8 2)).setCell ⟨b7, 5, none⟩ (.int .u32 0)).setCell ⟨b7, 6, none⟩ (.int .u64 0)).setCell ⟨b7, 7, none⟩ (.string ⟨#[]⟩)) = W5 at *
        obtain ⟨x0, x1, x2, x3, x4, x5, x6, x7, y0, y1, y2, y3, y4, y5, y6, y7⟩ := at8 H8.out
        refine Draw.call_d (i := 11) rfl (by kernel_rfl) (by rfl) (fun K' hK' => ?_)
        go_simp
        have hk2 := Lib.hid hK'.out
        replace HX := Lib.hid (at_set8_ne (v0 := .string ⟨#[97]⟩) (v1 := .int .u64 1) (v2 := .int .u32 2) (v3 := .int .u8 3) (v4 := .int .u8 3) (v5 := .int .u32 0) (v6 := .int .u64 0) (v7 := .string ⟨#[]⟩) HX.out (show w.heap.size ≠ b8 by omega))
        replace H6 := Lib.hid (at_set8_ne (v0 := .string ⟨#[97]⟩) (v1 := .int .u64 1) (v2 := .int .u32 2) (v3 := .int .u8 3) (v4 := .int .u8 3) (v5 := .int .u32 0) (v6 := .int .u64 0) (v7 := .string ⟨#[]⟩) H6.out (show b6 ≠ b8 by omega))
        replace H7 := Lib.hid (at_set8_ne (v0 := .string ⟨#[97]⟩) (v1 := .int .u64 1) (v2 := .int .u32 2) (v3 := .int .u8 3) (v4 := .int .u8 3) (v5 := .int .u32 0) (v6 := .int .u64 0) (v7 := .string ⟨#[]⟩) H7.out (show b7 ≠ b8 by omega))
        replace H8 := Lib.hid (at_set8 (v0 := .string ⟨#[97]⟩) (v1 := .int .u64 1) (v2 := .int .u32 2) (v3 := .int .u8 3) (v4 := .int .u8 3) (v5 := .int .u32 0) (v6 := .int .u64 0) (v7 := .string ⟨#[]⟩) H8.out)
        replace HB := Lib.hid (below_set8 (v0 := .string ⟨#[97]⟩) (v1 := .int .u64 1) (v2 := .int .u32 2) (v3 := .int .u8 3) (v4 := .int .u8 3) (v5 := .int .u32 0) (v6 := .int .u64 0) (v7 := .string ⟨#[]⟩) HB.out (show w.heap.size ≤ b8 by omega))
        refine hk2.out _ _ ?_ (fun hHeld => ?_)
        · (try dsimp only)
          exact ⟨(at3 HX.out).1, (at3 HX.out).2.1, (at3 HX.out).2.2.1⟩
        clear hK' hk2 K' hHeld x0 x1 x2 x3 x4 x5 x6 x7 y0 y1 y2 y3 y4 y5 y6 y7
        (try simp only [Act.put, List.setIfInBounds_toArray, List.set_cons_zero, List.set_cons_succ])
        generalize ((((((((W5.setCell ⟨b8, 0, none⟩ (.string ⟨#[97]⟩)).setCell ⟨b8, 1, none⟩ (.int .u64 1)).setCell ⟨b8, 2, none⟩ (.int .u32 2)).setCell ⟨b8, 3, none⟩ (.int .u8 3)).setCell ⟨b8, 4, none⟩ (.int .u8 3)).setCell ⟨b8, 5, none⟩ (.int .u32 0)).setCell ⟨b8, 6, none⟩ (.int .u64 0)).setCell ⟨b8, 7, none⟩ (.string ⟨#[]⟩)) = W6 at *
        refine wpAnyH_done (by kernel_rfl) ?_ _
        exact HK1.out b6 b7 b8 _ H6 H7 H8 HB
    case r6_8 =>
      intro K' hK'
      rw [if_pos (by rfl)]
      go_simp
      have hk2 := Lib.hid hK'.out
      have H8 := Lib.hid (at_new W1 #[.string ⟨#[]⟩, .int .u64 0, .int .u32 0, .int .u8 0, .int .u8 0, .int .u32 0, .int .u64 0, .string ⟨#[]⟩] 27)
      replace HX := Lib.hid (at_alloc (o := .cells #[.string ⟨#[]⟩, .int .u64 0, .int .u32 0, .int .u8 0, .int .u8 0, .int .u32 0, .int .u64 0, .string ⟨#[]⟩] 27) HX.out)
      replace H6 := Lib.hid (at_alloc (o := .cells #[.string ⟨#[]⟩, .int .u64 0, .int .u32 0, .int .u8 0, .int .u8 0, .int .u32 0, .int .u64 0, .string ⟨#[]⟩] 27) H6.out)
      replace HB := Lib.hid (below_al (o := .cells #[.string ⟨#[]⟩, .int .u64 0, .int .u32 0, .int .u8 0, .int .u8 0, .int .u32 0, .int .u64 0, .string ⟨#[]⟩] 27) HB.out)
      refine hk2.out _ _ ?_ (fun hHeld => ?_)
      · (try dsimp only)
        exact ⟨(at3 HX.out).1, (at3 HX.out).2.1, (at3 HX.out).2.2.1⟩
      clear hK' hk2 K' hHeld
      (try simp only [Act.put, List.setIfInBounds_toArray, List.set_cons_zero, List.set_cons_succ])
      have l8 : W1.heap.size < (W1.alloc (.cells #[.string ⟨#[]⟩, .int .u64 0, .int .u32 0, .int .u8 0, .int .u8 0, .int .u32 0, .int .u64 0, .string ⟨#[]⟩] 27)).heap.size := At.lt H8.out
      generalize W1.alloc (.cells #[.string ⟨#[]⟩, .int .u64 0, .int .u32 0, .int .u8 0, .int .u8 0, .int .u32 0, .int .u64 0, .string ⟨#[]⟩] 27) = W2 at *
      generalize W1.heap.size = b8 at *
      refine wpAnyH_ready (rs := [7]) (by kernel_rfl) (by simp) (AllReadyH.cons (Draw.nth (i := 7) rfl) ?r6_8_7 (AllReadyH.nil))
      case r6_8_7 =>
        intro K' hK'
        rw [if_pos (by rfl)]
        go_simp
        have hk2 := Lib.hid hK'.out
        have H7 := Lib.hid (at_new W2 #[.string ⟨#[]⟩, .int .u64 0, .int .u32 0, .int .u8 0, .int .u8 0, .int .u32 0, .int .u64 0, .string ⟨#[]⟩] 27)
        replace HX := Lib.hid (at_alloc (o := .cells #[.string ⟨#[]⟩, .int .u64 0, .int .u32 0, .int .u8 0, .int .u8 0, .int .u32 0, .int .u64 0, .string ⟨#[]⟩] 27) HX.out)
        replace H6 := Lib.hid (at_alloc (o := .cells #[.string ⟨#[]⟩, .int .u64 0, .int .u32 0, .int .u8 0, .int .u8 0, .int .u32 0, .int .u64 0, .string ⟨#[]⟩] 27) H6.out)
        replace H8 := Lib.hid (at_alloc (o := .cells #[.string ⟨#[]⟩, .int .u64 0, .int .u32 0, .int .u8 0, .int .u8 0, .int .u32 0, .int .u64 0, .string ⟨#[]⟩] 27) H8.out)
        replace HB := Lib.hid (below_al (o := .cells #[.string ⟨#[]⟩, .int .u64 0, .int .u32 0, .int .u8 0, .int .u8 0, .int .u32 0, .int .u64 0, .string ⟨#[]⟩] 27) HB.out)
        refine hk2.out _ _ ?_ (fun hHeld => ?_)
        · (try dsimp only)
          exact ⟨(at3 HX.out).1, (at3 HX.out).2.1, (at3 HX.out).2.2.1⟩
        clear hK' hk2 K' hHeld
        (try simp only [Act.put, List.setIfInBounds_toArray, List.set_cons_zero, List.set_cons_succ])
        have l7 : W2.heap.size < (W2.alloc (.cells #[.string ⟨#[]⟩, .int .u64 0, .int .u32 0, .int .u8 0, .int .u8 0, .int .u32 0, .int .u64 0, .string ⟨#[]⟩] 27)).heap.size := At.lt H7.out
        generalize W2.alloc (.cells #[.string ⟨#[]⟩, .int .u64 0, .int .u32 0, .int .u8 0, .int .u8 0, .int .u32 0, .int .u64 0, .string ⟨#[]⟩] 27) = W3 at *
        generalize W2.heap.size = b7 at *
        obtain ⟨x0, x1, x2, x3, x4, x5, x6, x7, y0, y1, y2, y3, y4, y5, y6, y7⟩ := at8 H6.out
        refine Draw.call_d (i := 9) rfl (by kernel_rfl) (by rfl) (fun K' hK' => ?_)
        go_simp
        have hk2 := Lib.hid hK'.out
        replace HX := Lib.hid (at_set8_ne (v0 := .string ⟨#[97]⟩) (v1 := .int .u64 1) (v2 := .int .u32 2) (v3 := .int .u8 3) (v4 := .int .u8 1) (v5 := .int .u32 0) (v6 := .int .u64 0) (v7 := .string ⟨#[]⟩) HX.out (show w.heap.size ≠ b6 by omega))
        replace H7 := Lib.hid (at_set8_ne (v0 := .string ⟨#[97]⟩) (v1 := .int .u64 1) (v2 := .int .u32 2) (v3 := .int .u8 3) (v4 := .int .u8 1) (v5 := .int .u32 0) (v6 := .int .u64 0) (v7 := .string ⟨#[]⟩) H7.out (show b7 ≠ b6 by omega))
        replace H8 := Lib.hid (at_set8_ne (v0 := .string ⟨#[97]⟩) (v1 := .int .u64 1) (v2 := .int .u32 2) (v3 := .int .u8 3) (v4 := .int .u8 1) (v5 := .int .u32 0) (v6 := .int .u64 0) (v7 := .string ⟨#[]⟩) H8.out (show b8 ≠ b6 by omega))
        replace H6 := Lib.hid (at_set8 (v0 := .string ⟨#[97]⟩) (v1 := .int .u64 1) (v2 := .int .u32 2) (v3 := .int .u8 3) (v4 := .int .u8 1) (v5 := .int .u32 0) (v6 := .int .u64 0) (v7 := .string ⟨#[]⟩) H6.out)
        replace HB := Lib.hid (below_set8 (v0 := .string ⟨#[97]⟩) (v1 := .int .u64 1) (v2 := .int .u32 2) (v3 := .int .u8 3) (v4 := .int .u8 1) (v5 := .int .u32 0) (v6 := .int .u64 0) (v7 := .string ⟨#[]⟩) HB.out (show w.heap.size ≤ b6 by omega))
        refine hk2.out _ _ ?_ (fun hHeld => ?_)
        · (try dsimp only)
          exact ⟨(at3 HX.out).1, (at3 HX.out).2.1, (at3 HX.out).2.2.1⟩
        clear hK' hk2 K' hHeld x0 x1 x2 x3 x4 x5 x6 x7 y0 y1 y2 y3 y4 y5 y6 y7
        (try simp only [Act.put, List.setIfInBounds_toArray, List.set_cons_zero, List.set_cons_succ])
        generalize ((((((((W3.setCell ⟨b6, 0, none⟩ (.string ⟨#[97]⟩)).setCell ⟨b6, 1, none⟩ (.int .u64 1)).setCell ⟨b6, 2, none⟩ (.int .u32 2)).setCell ⟨b6, 3, none⟩ (.int .u8 3)).setCell ⟨b6, 4, none⟩ (.int .u8 1)).setCell ⟨b6, 5, none⟩ (.int .u32 0)).setCell ⟨b6, 6, none⟩ (.int .u64 0)).setCell ⟨b6, 7, none⟩ (.string ⟨#[]⟩)) = W4 at *
        obtain ⟨x0, x1, x2, x3, x4, x5, x6, x7, y0, y1, y2, y3, y4, y5, y6, y7⟩ := at8 H7.out
        refine Draw.call_d (i := 10) rfl (by kernel_rfl) (by rfl) (fun K' hK' => ?_)
        go_simp
        have hk2 := Lib.hid hK'.out
        replace HX := Lib.hid (at_set8_ne (v0 := .string ⟨#[97]⟩) (v1 := .int .u64 1) (v2 := .int .u32 2) (v3 := .int .u8 3) (v4 := .int .u8 2) (v5 := .int .u32 0) (v6 := .int .u64 0) (v7 := .string ⟨#[]⟩) HX.out (show w.heap.size ≠ b7 by omega))
        replace H6 := Lib.hid (at_set8_ne (v0 := .string ⟨#[97]⟩) (v1 := .int .u64 1) (v2 := .int .u32 2) (v3 := .int .u8 3) (v4 := .int .u8 2) (v5 := .int .u32 0) (v6 := .int .u64 0) (v7 := .string ⟨#[]⟩) H6.out (show b6 ≠ b7 by omega))
        replace H8 := Lib.hid (at_set8_ne (v0 := .string ⟨#[97]⟩) (v1 := .int .u64 1) (v2 := .int .u32 2) (v3 := .int .u8 3) (v4 := .int .u8 2) (v5 := .int .u32 0) (v6 := .int .u64 0) (v7 := .string ⟨#[]⟩) H8.out (show b8 ≠ b7 by omega))
        replace H7 := Lib.hid (at_set8 (v0 := .string ⟨#[97]⟩) (v1 := .int .u64 1) (v2 := .int .u32 2) (v3 := .int .u8 3) (v4 := .int .u8 2) (v5 := .int .u32 0) (v6 := .int .u64 0) (v7 := .string ⟨#[]⟩) H7.out)
        replace HB := Lib.hid (below_set8 (v0 := .string ⟨#[97]⟩) (v1 := .int .u64 1) (v2 := .int .u32 2) (v3 := .int .u8 3) (v4 := .int .u8 2) (v5 := .int .u32 0) (v6 := .int .u64 0) (v7 := .string ⟨#[]⟩) HB.out (show w.heap.size ≤ b7 by omega))
        refine hk2.out _ _ ?_ (fun hHeld => ?_)
        · (try dsimp only)
          exact ⟨(at3 HX.out).1, (at3 HX.out).2.1, (at3 HX.out).2.2.1⟩
        clear hK' hk2 K' hHeld x0 x1 x2 x3 x4 x5 x6 x7 y0 y1 y2 y3 y4 y5 y6 y7
        (try simp only [Act.put, List.setIfInBounds_toArray, List.set_cons_zero, List.set_cons_succ])
        generalize ((((((((W4.setCell ⟨b7, 0, none⟩ (.string ⟨#[97]⟩)).setCell ⟨b7, 1, none⟩ (.int .u64 1)).setCell ⟨b7, 2, none⟩ (.int .u32 2)).setCell ⟨b7, 3, none⟩ (.int .u8 3)).setCell ⟨b7, 4, none⟩ (.int .u8 2)).setCell ⟨b7, 5, none⟩ (.int .u32 0)).setCell ⟨b7, 6, none⟩ (.int .u64 0)).setCell ⟨b7, 7, none⟩ (.string ⟨#[]⟩)) = W5 at *
        obtain ⟨x0, x1, x2, x3, x4, x5, x6, x7, y0, y1, y2, y3, y4, y5, y6, y7⟩ := at8 H8.out
        refine Draw.call_d (i := 11) rfl (by kernel_rfl) (by rfl) (fun K' hK' => ?_)
        go_simp
        have hk2 := Lib.hid hK'.out
        replace HX := Lib.hid (at_set8_ne (v0 := .string ⟨#[97]⟩) (v1 := .int .u64 1) (v2 := .int .u32 2) (v3 := .int .u8 3) (v4 := .int .u8 3) (v5 := .int .u32 0) (v6 := .int .u64 0) (v7 := .string ⟨#[]⟩) HX.out (show w.heap.size ≠ b8 by omega))
        replace H6 := Lib.hid (at_set8_ne (v0 := .string ⟨#[97]⟩) (v1 := .int .u64 1) (v2 := .int .u32 2) (v3 := .int .u8 3) (v4 := .int .u8 3) (v5 := .int .u32 0) (v6 := .int .u64 0) (v7 := .string ⟨#[]⟩) H6.out (show b6 ≠ b8 by omega))
        replace H7 := Lib.hid (at_set8_ne (v0 := .string ⟨#[97]⟩) (v1 := .int .u64 1) (v2 := .int .u32 2) (v3 := .int .u8 3) (v4 := .int .u8 3) (v5 := .int .u32 0) (v6 := .int .u64 0) (v7 := .string ⟨#[]⟩) H7.out (show b7 ≠ b8 by omega))
        replace H8 := Lib.hid (at_set8 (v0 := .string ⟨#[97]⟩) (v1 := .int .u64 1) (v2 := .int .u32 2) (v3 := .int .u8 3) (v4 := .int .u8 3) (v5 := .int .u32 0) (v6 := .int .u64 0) (v7 := .string ⟨#[]⟩) H8.out)
        replace HB := Lib.hid (below_set8 (v0 := .string ⟨#[97]⟩) (v1 := .int .u64 1) (v2 := .int .u32 2) (v3 := .int .u8 3) (v4 := .int .u8 3) (v5 := .int .u32 0) (v6 := .int .u64 0) (v7 := .string ⟨#[]⟩) HB.out (show w.heap.size ≤ b8 by omega))
        refine hk2.out _ _ ?_ (fun hHeld => ?_)
        · (try dsimp only)
          exact ⟨(at3 HX.out).1, (at3 HX.out).2.1, (at3 HX.out).2.2.1⟩
        clear hK' hk2 K' hHeld x0 x1 x2 x3 x4 x5 x6 x7 y0 y1 y2 y3 y4 y5 y6 y7
        (try simp only [Act.put, List.setIfInBounds_toArray, List.set_cons_zero, List.set_cons_succ])
        generalize ((((((((W5.setCell ⟨b8, 0, none⟩ (.string ⟨#[97]⟩)).setCell ⟨b8, 1, none⟩ (.int .u64 1)).setCell ⟨b8, 2, none⟩ (.int .u32 2)).setCell ⟨b8, 3, none⟩ (.int .u8 3)).setCell ⟨b8, 4, none⟩ (.int .u8 3)).setCell ⟨b8, 5, none⟩ (.int .u32 0)).setCell ⟨b8, 6, none⟩ (.int .u64 0)).setCell ⟨b8, 7, none⟩ (.string ⟨#[]⟩)) = W6 at *
        refine wpAnyH_done (by kernel_rfl) ?_ _
        exact HK1.out b6 b7 b8 _ H6 H7 H8 HB
  case r0_7 =>
    intro K' hK'
    rw [if_pos (by rfl)]
    go_simp
    have hk2 := Lib.hid hK'.out
    have H7 := Lib.hid (at_new W0 #[.string ⟨#[]⟩, .int .u64 0, .int .u32 0, .int .u8 0, .int .u8 0, .int .u32 0, .int .u64 0, .string ⟨#[]⟩] 27)
    replace HX := Lib.hid (at_alloc (o := .cells #[.string ⟨#[]⟩, .int .u64 0, .int .u32 0, .int .u8 0, .int .u8 0, .int .u32 0, .int .u64 0, .string ⟨#[]⟩] 27) HX.out)
    replace HB := Lib.hid (below_al (o := .cells #[.string ⟨#[]⟩, .int .u64 0, .int .u32 0, .int .u8 0, .int .u8 0, .int .u32 0, .int .u64 0, .string ⟨#[]⟩] 27) HB.out)
    refine hk2.out _ _ ?_ (fun hHeld => ?_)
    · (try dsimp only)
      exact ⟨(at3 HX.out).1, (at3 HX.out).2.1, (at3 HX.out).2.2.1⟩
    clear hK' hk2 K' hHeld
    (try simp only [Act.put, List.setIfInBounds_toArray, List.set_cons_zero, List.set_cons_succ])
    have l7 : W0.heap.size < (W0.alloc (.cells #[.string ⟨#[]⟩, .int .u64 0, .int .u32 0, .int .u8 0, .int .u8 0, .int .u32 0, .int .u64 0, .string ⟨#[]⟩] 27)).heap.size := At.lt H7.out
    generalize W0.alloc (.cells #[.string ⟨#[]⟩, .int .u64 0, .int .u32 0, .int .u8 0, .int .u8 0, .int .u32 0, .int .u64 0, .string ⟨#[]⟩] 27) = W1 at *
    generalize W0.heap.size = b7 at *
    refine wpAnyH_ready (rs := [6, 8]) (by kernel_rfl) (by simp) (AllReadyH.cons (Draw.nth (i := 6) rfl) ?r7_6 (AllReadyH.cons (Draw.nth (i := 8) rfl) ?r7_8 (AllReadyH.nil)))
    case r7_6 =>
      intro K' hK'
      rw [if_pos (by rfl)]
      go_simp
      have hk2 := Lib.hid hK'.out
      have H6 := Lib.hid (at_new W1 #[.string ⟨#[]⟩, .int .u64 0, .int .u32 0, .int .u8 0, .int .u8 0, .int .u32 0, .int .u64 0, .string ⟨#[]⟩] 27)
      replace HX := Lib.hid (at_alloc (o := .cells #[.string ⟨#[]⟩, .int .u64 0, .int .u32 0, .int .u8 0, .int .u8 0, .int .u32 0, .int .u64 0, .string ⟨#[]⟩] 27) HX.out)
      replace H7 := Lib.hid (at_alloc (o := .cells #[.string ⟨#[]⟩, .int .u64 0, .int .u32 0, .int .u8 0, .int .u8 0, .int .u32 0, .int .u64 0, .string ⟨#[]⟩] 27) H7.out)
      replace HB := Lib.hid (below_al (o := .cells #[.string ⟨#[]⟩, .int .u64 0, .int .u32 0, .int .u8 0, .int .u8 0, .int .u32 0, .int .u64 0, .string ⟨#[]⟩] 27) HB.out)
      refine hk2.out _ _ ?_ (fun hHeld => ?_)
      · (try dsimp only)
        exact ⟨(at3 HX.out).1, (at3 HX.out).2.1, (at3 HX.out).2.2.1⟩
      clear hK' hk2 K' hHeld
      (try simp only [Act.put, List.setIfInBounds_toArray, List.set_cons_zero, List.set_cons_succ])
      have l6 : W1.heap.size < (W1.alloc (.cells #[.string ⟨#[]⟩, .int .u64 0, .int .u32 0, .int .u8 0, .int .u8 0, .int .u32 0, .int .u64 0, .string ⟨#[]⟩] 27)).heap.size := At.lt H6.out
      generalize W1.alloc (.cells #[.string ⟨#[]⟩, .int .u64 0, .int .u32 0, .int .u8 0, .int .u8 0, .int .u32 0, .int .u64 0, .string ⟨#[]⟩] 27) = W2 at *
      generalize W1.heap.size = b6 at *
      refine wpAnyH_ready (rs := [8]) (by kernel_rfl) (by simp) (AllReadyH.cons (Draw.nth (i := 8) rfl) ?r7_6_8 (AllReadyH.nil))
      case r7_6_8 =>
        intro K' hK'
        rw [if_pos (by rfl)]
        go_simp
        have hk2 := Lib.hid hK'.out
        have H8 := Lib.hid (at_new W2 #[.string ⟨#[]⟩, .int .u64 0, .int .u32 0, .int .u8 0, .int .u8 0, .int .u32 0, .int .u64 0, .string ⟨#[]⟩] 27)
        replace HX := Lib.hid (at_alloc (o := .cells #[.string ⟨#[]⟩, .int .u64 0, .int .u32 0, .int .u8 0, .int .u8 0, .int .u32 0, .int .u64 0, .string ⟨#[]⟩] 27) HX.out)
        replace H7 := Lib.hid (at_alloc (o := .cells #[.string ⟨#[]⟩, .int .u64 0, .int .u32 0, .int .u8 0, .int .u8 0, .int .u32 0, .int .u64 0, .string ⟨#[]⟩] 27) H7.out)
        replace H6 := Lib.hid (at_alloc (o := .cells #[.string ⟨#[]⟩, .int .u64 0, .int .u32 0, .int .u8 0, .int .u8 0, .int .u32 0, .int .u64 0, .string ⟨#[]⟩] 27) H6.out)
        replace HB := Lib.hid (below_al (o := .cells #[.string ⟨#[]⟩, .int .u64 0, .int .u32 0, .int .u8 0, .int .u8 0, .int .u32 0, .int .u64 0, .string ⟨#[]⟩] 27) HB.out)
        refine hk2.out _ _ ?_ (fun hHeld => ?_)
        · (try dsimp only)
          exact ⟨(at3 HX.out).1, (at3 HX.out).2.1, (at3 HX.out).2.2.1⟩
        clear hK' hk2 K' hHeld
        (try simp only [Act.put, List.setIfInBounds_toArray, List.set_cons_zero, List.set_cons_succ])
        have l8 : W2.heap.size < (W2.alloc (.cells #[.string ⟨#[]⟩, .int .u64 0, .int .u32 0, .int .u8 0, .int .u8 0, .int .u32 0, .int .u64 0, .string ⟨#[]⟩] 27)).heap.size := At.lt H8.out
        generalize W2.alloc (.cells #[.string ⟨#[]⟩, .int .u64 0, .int .u32 0, .int .u8 0, .int .u8 0, .int .u32 0, .int .u64 0, .string ⟨#[]⟩] 27) = W3 at *
        generalize W2.heap.size = b8 at *
        obtain ⟨x0, x1, x2, x3, x4, x5, x6, x7, y0, y1, y2, y3, y4, y5, y6, y7⟩ := at8 H6.out
        refine Draw.call_d (i := 9) rfl (by kernel_rfl) (by rfl) (fun K' hK' => ?_)
        go_simp
        have hk2 := Lib.hid hK'.out
        replace HX := Lib.hid (at_set8_ne (v0 := .string ⟨#[97]⟩) (v1 := .int .u64 1) (v2 := .int .u32 2) (v3 := .int .u8 3) (v4 := .int .u8 1) (v5 := .int .u32 0) (v6 := .int .u64 0) (v7 := .string ⟨#[]⟩) HX.out (show w.heap.size ≠ b6 by omega))
        replace H7 := Lib.hid (at_set8_ne (v0 := .string ⟨#[97]⟩) (v1 := .int .u64 1) (v2 := .int .u32 2) (v3 := .int .u8 3) (v4 := .int .u8 1) (v5 := .int .u32 0) (v6 := .int .u64 0) (v7 := .string ⟨#[]⟩) H7.out (show b7 ≠ b6 by omega))
        replace H8 := Lib.hid (at_set8_ne (v0 := .string ⟨#[97]⟩) (v1 := .int .u64 1) (v2 := .int .u32 2) (v3 := .int .u8 3) (v4 := .int .u8 1) (v5 := .int .u32 0) (v6 := .int .u64 0) (v7 := .string ⟨#[]⟩) H8.out (show b8 ≠ b6 by omega))
        replace H6 := Lib.hid (at_set8 (v0 := .string ⟨#[97]⟩) (v1 := .int .u64 1) (v2 := .int .u32 2) (v3 := .int .u8 3) (v4 := .int .u8 1) (v5 := .int .u32 0) (v6 := .int .u64 0) (v7 := .string ⟨#[]⟩) H6.out)
        replace HB := Lib.hid (below_set8 (v0 := .string ⟨#[97]⟩) (v1 := .int .u64 1) (v2 := .int .u32 2) (v3 := .int .u8 3) (v4 := .int .u8 1) (v5 := .int .u32 0) (v6 := .int .u64 0) (v7 := .string ⟨#[]⟩) HB.out (show w.heap.size ≤ b6 by omega))
        refine hk2.out _ _ ?_ (fun hHeld => ?_)
        · (try dsimp only)
          exact ⟨(at3 HX.out).1, (at3 HX.out).2.1, (at3 HX.out).2.2.1⟩
        clear hK' hk2 K' hHeld x0 x1 x2 x3 x4 x5 x6 x7 y0 y1 y2 y3 y4 y5 y6 y7
        (try simp only [Act.put, List.setIfInBounds_toArray, List.set_cons_zero, List.set_cons_succ])
        generalize ((((((((W3.setCell ⟨b6, 0, none⟩ (.string ⟨#[97]⟩)).setCell ⟨b6, 1, none⟩ (.int .u64 1)).setCell ⟨b6, 2, none⟩ (.int .u32 2)).setCell ⟨b6, 3, none⟩ (.int .u8 3)).setCell ⟨b6, 4, none⟩ (.int .u8 1)).setCell ⟨b6, 5, none⟩ (.int .u32 0)).setCell ⟨b6, 6, none⟩ (.int .u64 0)).setCell ⟨b6, 7, none⟩ (.string ⟨#[]⟩)) = W4 at *
        obtain ⟨x0, x1, x2, x3, x4, x5, x6, x7, y0, y1, y2, y3, y4, y5, y6, y7⟩ := at8 H7.out
        refine Draw.call_d (i := 10) rfl (by kernel_rfl) (by rfl) (fun K' hK' => ?_)
        go_simp
        have hk2 := Lib.hid hK'.out
        replace HX := Lib.hid (at_set8_ne (v0 := .string ⟨#[97]⟩) (v1 := .int .u64 1) (v2 := .int .u32 2) (v3 := .int .u8 3) (v4 := .int .u8 2) (v5 := .int .u32 0) (v6 := .int .u64 0) (v7 := .string ⟨#[]⟩) HX.out (show w.heap.size ≠ b7 by omega))
        replace H6 := Lib.hid (at_set8_ne (v0 := .string ⟨#[97]⟩) (v1 := .int .u64 1) (v2 := .int .u32 2) (v3 := .int .u8 3) (v4 := .int .u8 2) (v5 := .int .u32 0) (v6 := .int .u64 0) (v7 := .string ⟨#[]⟩) H6.out (show b6 ≠ b7 by omega))
        replace H8 := Lib.hid (at_set8_ne (v0 := .string ⟨#[97]⟩) (v1 := .int .u64 1) (v2 := .int .u32 2) (v3 := .int .u8 3) (v4 := .int .u8 2) (v5 := .int .u32 0) (v6 := .int .u64 0) (v7 := .string ⟨#[]⟩) H8.out (show b8 ≠ b7 by omega))
        replace H7 := Lib.hid (at_set8 (v0 := .string ⟨#[97]⟩) (v1 := .int .u64 1) (v2 := .int .u32 2) (v3 := .int .u8 3) (v4 := .int .u8 2) (v5 := .int .u32 0) (v6 := .int .u64 0) (v7 := .string ⟨#[]⟩) H7.out)
        replace HB := Lib.hid (below_set8 (v0 := .string ⟨#[97]⟩) (v1 := .int .u64 1) (v2 := .int .u32 2) (v3 := .int .u8 3) (v4 := .int .u8 2) (v5 := .int .u32 0) (v6 := .int .u64 0) (v7 := .string ⟨#[]⟩) HB.out (show w.heap.size ≤ b7 by omega))
        refine hk2.out _ _ ?_ (fun hHeld => ?_)
        · (try dsimp only)
          exact ⟨(at3 HX.out).1, (at3 HX.out).2.1, (at3 HX.out).2.2.1⟩
        clear hK' hk2 K' hHeld x0 x1 x2 x3 x4 x5 x6 x7 y0 y1 y2 y3 y4 y5 y6 y7
        (try simp only [Act.put, List.setIfInBounds_toArray, List.set_cons_zero, List.set_cons_succ])
        generalize ((((((((W4.setCell ⟨b7, 0, none⟩ (.string ⟨#[97]⟩)).setCell ⟨b7, 1, none⟩ (.int .u64 1)).setCell ⟨b7, 2, none⟩ (.int .u32 2)).setCell ⟨b7, 3, none⟩ (.int .u8 3)).setCell ⟨b7, 4, none⟩ (.int .u8 2)).setCell ⟨b7, 5, none⟩ (.int .u32 0)).setCell ⟨b7, 6, none⟩ (.int .u64 0)).setCell ⟨b7, 7, none⟩ (.string ⟨#[]⟩)) = W5 at *
        obtain ⟨x0, x1, x2, x3, x4, x5, x6, x7, y0, y1, y2, y3, y4, y5, y6, y7⟩ := at8 H8.out
        refine Draw.call_d (i := 11) rfl (by kernel_rfl) (by rfl) (fun K' hK' => ?_)
        go_simp
        have hk2 := Lib.hid hK'.out
        replace HX := Lib.hid (at_set8_ne (v0 := .string ⟨#[97]⟩) (v1 := .int .u64 1) (v2 := .int .u32 2) (v3 := .int .u8 3) (v4 := .int .u8 3) (v5 := .int .u32 0) (v6 := .int .u64 0) (v7 := .string ⟨#[]⟩) HX.out (show w.heap.size ≠ b8 by omega))
        replace H6 := Lib.hid (at_set8_ne (v0 := .string ⟨#[97]⟩) (v1 := .int .u64 1) (v2 := .int .u32 2) (v3 := .int .u8 3) (v4 := .int .u8 3) (v5 := .int .u32 0) (v6 := .int .u64 0) (v7 := .string ⟨#[]⟩) H6.out (show b6 ≠ b8 by omega))
        replace H7 := Lib.hid (at_set8_ne (v0 := .string ⟨#[97]⟩) (v1 := .int .u64 1) (v2 := .int .u32 2) (v3 := .int .u8 3) (v4 := .int .u8 3) (v5 := .int .u32 0) (v6 := .int .u64 0) (v7 := .string ⟨#[]⟩) H7.out (show b7 ≠ b8 by omega))
        replace H8 := Lib.hid (at_set8 (v0 := .string ⟨#[97]⟩) (v1 := .int .u64 1) (v2 := .int .u32 2) (v3 := .int .u8 3) (v4 := .int .u8 3) (v5 := .int .u32 0) (v6 := .int .u64 0) (v7 := .string ⟨#[]⟩) H8.out)
        replace HB := Lib.hid (below_set8 (v0 := .string ⟨#[97]⟩) (v1 := .int .u64 1) (v2 := .int .u32 2) (v3 := .int .u8 3) (v4 := .int .u8 3) (v5 := .int .u32 0) (v6 := .int .u64 0) (v7 := .string ⟨#[]⟩) HB.out (show w.heap.size ≤ b8 by omega))
        refine hk2.out _ _ ?_ (fun hHeld => ?_)
        · (try dsimp only)
          exact ⟨(at3 HX.out).1, (at3 HX.out).2.1, (at3 HX.out).2.2.1⟩
        clear hK' hk2 K' hHeld x0 x1 x2 x3 x4 x5 x6 x7 y0 y1 y2 y3 y4 y5 y6 y7
        (try simp only [Act.put, List.setIfInBounds_toArray, List.set_cons_zero, List.set_cons_succ])
        generalize ((((((((W5.setCell ⟨b8, 0, none⟩ (.string ⟨#[97]⟩)).setCell ⟨b8, 1, none⟩ (.int .u64 1)).setCell ⟨b8, 2, none⟩ (.int .u32 2)).setCell ⟨b8, 3, none⟩ (.int .u8 3)).setCell ⟨b8, 4, none⟩ (.int .u8 3)).setCell ⟨b8, 5, none⟩ (.int .u32 0)).setCell ⟨b8, 6, none⟩ (.int .u64 0)).setCell ⟨b8, 7, none⟩ (.string ⟨#[]⟩)) = W6 at *
        refine wpAnyH_done (by kernel_rfl) ?_ _
        exact HK1.out b6 b7 b8 _ H6 H7 H8 HB
    case r7_8 =>
      intro K' hK'
      rw [if_pos (by rfl)]
      go_simp
      have hk2 := Lib.hid hK'.out
      have H8 := Lib.hid (at_new W1 #[.string ⟨#[]⟩, .int .u64 0, .int .u32 0, .int .u8 0, .int .u8 0, .int .u32 0, .int .u64 0, .string ⟨#[]⟩] 27)
      replace HX := Lib.hid (at_alloc (o := .cells #[.string ⟨#[]⟩, .int .u64 0, .int .u32 0, .int .u8 0, .int .u8 0, .int .u32 0, .int .u64 0, .string ⟨#[]⟩] 27) HX.out)
      replace H7 := Lib.hid (at_alloc (o := .cells #[.string ⟨#[]⟩, .int .u64 0, .int .u32 0, .int .u8 0, .int .u8 0, .int .u32 0, .int .u64 0, .string ⟨#[]⟩] 27) H7.out)
      replace HB := Lib.hid (below_al (o := .cells #[.string ⟨#[]⟩, .int .u64 0, .int .u32 0, .int .u8 0, .int .u8 0, .int .u32 0, .int .u64 0, .string ⟨#[]⟩] 27) HB.out)
      refine hk2.out _ _ ?_ (fun hHeld => ?_)
      · (try dsimp only)
        exact ⟨(at3 HX.out).1, (at3 HX.out).2.1, (at3 HX.out).2.2.1⟩
      clear hK' hk2 K' hHeld
      (try simp only [Act.put, List.setIfInBounds_toArray, List.set_cons_zero, List.set_cons_succ])
      have l8 : W1.heap.size < (W1.alloc (.cells #[.string ⟨#[]⟩, .int .u64 0, .int .u32 0, .int .u8 0, .int .u8 0, .int .u32 0, .int .u64 0, .string ⟨#[]⟩] 27)).heap.size := At.lt H8.out
      generalize W1.alloc (.cells #[.string ⟨#[]⟩, .int .u64 0, .int .u32 0, .int .u8 0, .int .u8 0, .int .u32 0, .int .u64 0, .string ⟨#[]⟩] 27) = W2 at *
      generalize W1.heap.size = b8 at *
      refine wpAnyH_ready (rs := [6]) (by kernel_rfl) (by simp) (AllReadyH.cons (Draw.nth (i := 6) rfl) ?r7_8_6 (AllReadyH.nil))
      case r7_8_6 =>
        intro K' hK'
        rw [if_pos (by rfl)]
        go_simp
        have hk2 := Lib.hid hK'.out
        have H6 := Lib.hid (at_new W2 #[.string ⟨#[]⟩, .int .u64 0, .int .u32 0, .int .u8 0, .int .u8 0, .int .u32 0, .int .u64 0, .string ⟨#[]⟩] 27)
        replace HX := Lib.hid (at_alloc (o := .cells #[.string ⟨#[]⟩, .int .u64 0, .int .u32 0, .int .u8 0, .int .u8 0, .int .u32 0, .int .u64 0, .string ⟨#[]⟩] 27) HX.out)
        replace H7 := Lib.hid (at_alloc (o := .cells #[.string ⟨#[]⟩, .int .u64 0, .int .u32 0, .int .u8 0, .int .u8 0, .int .u32 0, .int .u64 0, .string ⟨#[]⟩] 27) H7.out)
        replace H8 := Lib.hid (at_alloc (o := .cells #[.string ⟨#[]⟩, .int .u64 0, .int .u32 0, .int .u8 0, .int .u8 0, .int .u32 0, .int .u64 0, .string ⟨#[]⟩] 27) H8.out)
        replace HB := Lib.hid (below_al (o := .cells #[.string ⟨#[]⟩, .int .u64 0, .int .u32 0, .int .u8 0, .int .u8 0, .int .u32 0, .int .u64 0, .string ⟨#[]⟩] 27) HB.out)
        refine hk2.out _ _ ?_ (fun hHeld => ?_)
        · (try dsimp only)
          exact ⟨(at3 HX.out).1, (at3 HX.out).2.1, (at3 HX.out).2.2.1⟩
        clear hK' hk2 K' hHeld
        (try simp only [Act.put, List.setIfInBounds_toArray, List.set_cons_zero, List.set_cons_succ])
        have l6 : W2.heap.size < (W2.alloc (.cells #[.string ⟨#[]⟩, .int .u64 0, .int .u32 0, .int .u8 0, .int .u8 0, .int .u32 0, .int .u64 0, .string ⟨#[]⟩] 27)).heap.size := At.lt H6.out
        generalize W2.alloc (.cells #[.string ⟨#[]⟩, .int .u64 0, .int .u32 0, .int .u8 0, .int .u8 0, .int .u32 0, .int .u64 0, .string ⟨#[]⟩] 27) = W3 at *
        generalize W2.heap.size = b6 at *
        obtain ⟨x0, x1, x2, x3, x4, x5, x6, x7, y0, y1, y2, y3, y4, y5, y6, y7⟩ := at8 H6.out
        refine Draw.call_d (i := 9) rfl (by kernel_rfl) (by rfl) (fun K' hK' => ?_)
        go_simp
        have hk2 := Lib.hid hK'.out
        replace HX := Lib.hid (at_set8_ne (v0 := .string ⟨#[97]⟩) (v1 := .int .u64 1) (v2 := .int .u32 2) (v3 := .int .u8 3) (v4 := .int .u8 1) (v5 := .int .u32 0) (v6 := .int .u64 0) (v7 := .string ⟨#[]⟩) HX.out (show w.heap.size ≠ b6 by omega))
        replace H7 := Lib.hid (at_set8_ne (v0 := .string ⟨#[97]⟩) (v1 := .int .u64 1) (v2 := .int .u32 2) (v3 := .int .u8 3) (v4 := .int .u8 1) (v5 := .int .u32 0) (v6 := .int .u64 0) (v7 := .string ⟨#[]⟩) H7.out (show b7 ≠ b6 by omega))
        replace H8 := Lib.hid (at_set8_ne (v0 := .string ⟨#[97]⟩) (v1 := .int .u64 1) (v2 := .int .u32 2) (v3 := .int .u8 3) (v4 := .int .u8 1) (v5 := .int .u32 0) (v6 := .int .u64 0) (v7 := .string ⟨#[]⟩) H8.out (show b8 ≠ b6 by omega))
        replace H6 := Lib.hid (at_set8 (v0 := .string ⟨#[97]⟩) (v1 := .int .u64 1) (v2 := .int .u32 2) (v3 := .int .u8 3) (v4 := .int .u8 1) (v5 := .int .u32 0) (v6 := .int .u64 0) (v7 := .string ⟨#[]⟩) H6.out)
        replace HB := Lib.hid (below_set8 (v0 := .string ⟨#[97]⟩) (v1 := .int .u64 1) (v2 := .int .u32 2) (v3 := .int .u8 3) (v4 := .int .u8 1) (v5 := .int .u32 0) (v6 := .int .u64 0) (v7 := .string ⟨#[]⟩) HB.out (show w.heap.size ≤ b6 by omega))
        refine hk2.out _ _ ?_ (fun hHeld => ?_)
        · (try dsimp only)
          exact ⟨(at3 HX.out).1, (at3 HX.out).2.1, (at3 HX.out).2.2.1⟩
        clear hK' hk2 K' hHeld x0 x1 x2 x3 x4 x5 x6 x7 y0 y1 y2 y3 y4 y5 y6 y7
        (try simp only [Act.put, List.setIfInBounds_toArray, List.set_cons_zero, List.set_cons_succ])
        generalize ((((((((W3.setCell ⟨b6, 0, none⟩ (.string ⟨#[97]⟩)).setCell ⟨b6, 1, none⟩ (.int .u64 1)).setCell ⟨b6, 2, none⟩ (.int .u32 2)).setCell ⟨b6, 3, none⟩ (.int .u8 3)).setCell ⟨b6, 4, none⟩ (.int .u8 1)).setCell ⟨b6, 5, none⟩ (.int .u32 0)).setCell ⟨b6, 6, none⟩ (.int .u64 0)).setCell ⟨b6, 7, none⟩ (.string ⟨#[]⟩)) = W4 at *
        obtain ⟨x0, x1, x2, x3, x4, x5, x6, x7, y0, y1, y2, y3, y4, y5, y6, y7⟩ := at8 H7.out
        refine Draw.call_d (i := 10) rfl (by kernel_rfl) (by rfl) (fun K' hK' => ?_)
        go_simp
        have hk2 := Lib.hid hK'.out
        replace HX := Lib.hid (at_set8_ne (v0 := .string ⟨#[97]⟩) (v1 := .int .u64 1) (v2 := .int .u32 2) (v3 := .int .u8 3) (v4 := .int .u8 2) (v5 := .int .u32 0) (v6 := .int .u64 0) (v7 := .string ⟨#[]⟩) HX.out (show w.heap.size ≠ b7 by omega))
        replace H6 := Lib.hid (at_set8_ne (v0 := .string ⟨#[97]⟩) (v1 := .int .u64 1) (v2 := .int .u32 2) (v3 := .int .u8 3) (v4 := .int .u8 2) (v5 := .int .u32 0) (v6 := .int .u64 0) (v7 := .string ⟨#[]⟩) H6.out (show b6 ≠ b7 by omega))
        replace H8 := Lib.hid (at_set8_ne (v0 := .string ⟨#[97]⟩) (v1 := .int .u64 1) (v2 := .int .u32 2) (v3 := .int .u8 3) (v4 := .int .u8 2) (v5 := .int .u32 0) (v6 := .int .u64 0) (v7 := .string ⟨#[]⟩) H8.out (show b8 ≠ b7 by omega))
        replace H7 := Lib.hid (at_set8 (v0 := .string ⟨#[97]⟩) (v1 := .int .u64 1) (v2 := .int .u32 2) (v3 := .int .u8 3) (v4 := .int .u8 2) (v5 := .int .u32 0) (v6 := .int .u64 0) (v7 := .string ⟨#[]⟩) H7.out)
        replace HB := Lib.hid (below_set8 (v0 := .string ⟨#[97]⟩) (v1 := .int .u64 1) (v2 := .int .u32 2) (v3 := .int .u8 3) (v4 := .int .u8 2) (v5 := .int .u32 0) (v6 := .int .u64 0) (v7 := .string ⟨#[]⟩) HB.out (show w.heap.size ≤ b7 by omega))
        refine hk2.out _ _ ?_ (fun hHeld => ?_)
        · (try dsimp only)
          exact ⟨(at3 HX.out).1, (at3 HX.out).2.1, (at3 HX.out).2.2.1⟩
        clear hK' hk2 K' hHeld x0 x1 x2 x3 x4 x5 x6 x7 y0 y1 y2 y3 y4 y5 y6 y7
        (try simp only [Act.put, List.setIfInBounds_toArray, List.set_cons_zero, List.set_cons_succ])
        generalize ((((((((W4.setCell ⟨b7, 0, none⟩ (.string ⟨#[97]⟩)).setCell ⟨b7, 1, none⟩ (.int .u64 1)).setCell ⟨b7, 2, none⟩ (.int .u32 2)).setCell ⟨b7, 3, none⟩ (.int .u8 3)).setCell ⟨b7, 4, none⟩ (.int .u8 2)).setCell ⟨b7, 5, none⟩ (.int .u32 0)).setCell ⟨b7, 6, none⟩ (.int .u64 0)).setCell ⟨b7, 7, none⟩ (.string ⟨#[]⟩)) = W5 at *
        obtain ⟨x0, x1, x2, x3, x4, x5, x6, x7, y0, y1, y2, y3, y4, y5, y6, y7⟩ := at8 H8.out
        refine Draw.call_d (i := 11) rfl (by kernel_rfl) (by rfl) (fun K' hK' => ?_)
        go_simp
        have hk2 := Lib.hid hK'.out
        replace HX := Lib.hid (at_set8_ne (v0 := .string ⟨#[97]⟩) (v1 := .int .u64 1) (v2 := .int .u32 2) (v3 := .int .u8 3) (v4 := .int .u8 3) (v5 := .int .u32 0) (v6 := .int .u64 0) (v7 := .string ⟨#[]⟩) HX.out (show w.heap.size ≠ b8 by omega))
        replace H6 := Lib.hid (at_set8_ne (v0 := .string ⟨#[97]⟩) (v1 := .int .u64 1) (v2 := .int .u32 2) (v3 := .int .u8 3) (v4 := .int .u8 3) (v5 := .int .u32 0) (v6 := .int .u64 0) (v7 := .string ⟨#[]⟩) H6.out (show b6 ≠ b8 by omega))
        replace H7 := Lib.hid (at_set8_ne (v0 := .string ⟨#[97]⟩) (v1 := .int .u64 1) (v2 := .int .u32 2) (v3 := .int .u8 3) (v4 := .int .u8 3) (v5 := .int .u32 0) (v6 := .int .u64 0) (v7 := .string ⟨#[]⟩) H7.out (show b7 ≠ b8 by omega))
        replace H8 := Lib.hid (at_set8 (v0 := .string ⟨#[97]⟩) (v1 := .int .u64 1) (v2 := .int .u32 2) (v3 := .int .u8 3) (v4 := .int .u8 3) (v5 := .int .u32 0) (v6 := .int .u64 0) (v7 := .string ⟨#[]⟩) H8.out)
        replace HB := Lib.hid (below_set8 (v0 := .string ⟨#[97]⟩) (v1 := .int .u64 1) (v2 := .int .u32 2) (v3 := .int .u8 3) (v4 := .int .u8 3) (v5 := .int .u32 0) (v6 := .int .u64 0) (v7 := .string ⟨#[]⟩) HB.out (show w.heap.size ≤ b8 by omega))
        refine hk2.out _ _ ?_ (fun hHeld => ?_)
        · (try dsimp only)
          exact ⟨(at3 HX.out).1, (at3 HX.out).2.1, (at3 HX.out).2.2.1⟩
        clear hK' hk2 K' hHeld x0 x1 x2 x3 x4 x5 x6 x7 y0 y1 y2 y3 y4 y5 y6 y7
        (try simp only [Act.put, List.setIfInBounds_toArray, List.set_cons_zero, List.set_cons_succ])
        generalize ((((((((W5.setCell ⟨b8, 0, none⟩ (.string ⟨#[97]⟩)).setCell ⟨b8, 1, none⟩ (.int .u64 1)).setCell ⟨b8, 2, none⟩ (.int .u32 2)).setCell ⟨b8, 3, none⟩ (.int .u8 3)).setCell ⟨b8, 4, none⟩ (.int .u8 3)).setCell ⟨b8, 5, none⟩ (.int .u32 0)).setCell ⟨b8, 6, none⟩ (.int .u64 0)).setCell ⟨b8, 7, none⟩ (.string ⟨#[]⟩)) = W6 at *
        refine wpAnyH_done (by kernel_rfl) ?_ _
        exact HK1.out b6 b7 b8 _ H6 H7 H8 HB
  case r0_8 =>
    intro K' hK'
    rw [if_pos (by rfl)]
    go_simp
    have hk2 := Lib.hid hK'.out
    have H8 := Lib.hid (at_new W0 #[.string ⟨#[]⟩, .int .u64 0, .int .u32 0, .int .u8 0, .int .u8 0, .int .u32 0, .int .u64 0, .string ⟨#[]⟩] 27)
    replace HX := Lib.hid (at_alloc (o := .cells #[.string ⟨#[]⟩, .int .u64 0, .int .u32 0, .int .u8 0, .int .u8 0, .int .u32 0, .int .u64 0, .string ⟨#[]⟩] 27) HX.out)
    replace HB := Lib.hid (below_al (o := .cells #[.string ⟨#[]⟩, .int .u64 0, .int .u32 0, .int .u8 0, .int .u8 0, .int .u32 0, .int .u64 0, .string ⟨#[]⟩] 27) HB.out)
    refine hk2.out _ _ ?_ (fun hHeld => ?_)
    · (try dsimp only)
      exact ⟨(at3 HX.out).1, (at3 HX.out).2.1, (at3 HX.out).2.2.1⟩
    clear hK' hk2 K' hHeld
    (try simp only [Act.put, List.setIfInBounds_toArray, List.set_cons_zero, List.set_cons_succ])
    have l8 : W0.heap.size < (W0.alloc (.cells #[.string ⟨#[]⟩, .int .u64 0, .int .u32 0, .int .u8 0, .int .u8 0, .int .u32 0, .int .u64 0, .string ⟨#[]⟩] 27)).heap.size := At.lt H8.out
    generalize W0.alloc (.cells #[.string ⟨#[]⟩, .int .u64 0, .int .u32 0, .int .u8 0, .int .u8 0, .int .u32 0, .int .u64 0, .string ⟨#[]⟩] 27) = W1 at *
    generalize W0.heap.size = b8 at *
    refine wpAnyH_ready (rs := [6, 7]) (by kernel_rfl) (by simp) (AllReadyH.cons (Draw.nth (i := 6) rfl) ?r8_6 (AllReadyH.cons (Draw.nth (i := 7) rfl) ?r8_7 (AllReadyH.nil)))
    case r8_6 =>
      intro K' hK'
      rw [if_pos (by rfl)]
      go_simp
      have hk2 := Lib.hid hK'.out
      have H6 := Lib.hid (at_new W1 #[.string ⟨#[]⟩, .int .u64 0, .int .u32 0, .int .u8 0, .int .u8 0, .int .u32 0, .int .u64 0, .string ⟨#[]⟩] 27)
      replace HX := Lib.hid (at_alloc (o := .cells #[.string ⟨#[]⟩, .int .u64 0, .int .u32 0, .int .u8 0, .int .u8 0, .int .u32 0, .int .u64 0, .string ⟨#[]⟩] 27) HX.out)
      replace H8 := Lib.hid (at_alloc (o := .cells #[.string ⟨#[]⟩, .int .u64 0, .int .u32 0, .int .u8 0, .int .u8 0, .int .u32 0, .int .u64 0, .string ⟨#[]⟩] 27) H8.out)
      replace HB := Lib.hid (below_al (o := .cells #[.string ⟨#[]⟩, .int .u64 0, .int .u32 0, .int .u8 0, .int .u8 0, .int .u32 0, .int .u64 0, .string ⟨#[]⟩] 27) HB.out)
      refine hk2.out _ _ ?_ (fun hHeld => ?_)
      · (try dsimp only)
        exact ⟨(at3 HX.out).1, (at3 HX.out).2.1, (at3 HX.out).2.2.1⟩
      clear hK' hk2 K' hHeld
      (try simp only [Act.put, List.setIfInBounds_toArray, List.set_cons_zero, List.set_cons_succ])
      have l6 : W1.heap.size < (W1.alloc (.cells #[.string ⟨#[]⟩, .int .u64 0, .int .u32 0, .int .u8 0, .int .u8 0, .int .u32 0, .int .u64 0, .string ⟨#[]⟩] 27)).heap.size := At.lt H6.out
      generalize W1.alloc (.cells #[.string ⟨#[]⟩, .int .u64 0, .int .u32 0, .int .u8 0, .int .u8 0, .int .u32 0, .int .u64 0, .string ⟨#[]⟩] 27) = W2 at *
      generalize W1.heap.size = b6 at *
      refine wpAnyH_ready (rs := [7]) (by kernel_rfl) (by simp) (AllReadyH.cons (Draw.nth (i := 7) rfl) ?r8_6_7 (AllReadyH.nil))
      case r8_6_7 =>
        intro K' hK'
        rw [if_pos (by rfl)]
        go_simp
        have hk2 := Lib.hid hK'.out
        have H7 := Lib.hid (at_new W2 #[.string ⟨#[]⟩, .int .u64 0, .int .u32 0, .int .u8 0, .int .u8 0, .int .u32 0, .int .u64 0, .string ⟨#[]⟩] 27)
        replace HX := Lib.hid (at_alloc (o := .cells #[.string ⟨#[]⟩, .int .u64 0, .int .u32 0, .int .u8 0, .int .u8 0, .int .u32 0, .int .u64 0, .string ⟨#[]⟩] 27) HX.out)
        replace H8 := Lib.hid (at_alloc (o := .cells #[.string ⟨#[]⟩, .int .u64 0, .int .u32 0, .int .u8 0, .int .u8 0, .int .u32 0, .int .u64 0, .string ⟨#[]⟩] 27) H8.out)
        replace H6 := Lib.hid (at_alloc (o := .cells #[.string ⟨#[]⟩, .int .u64 0, .int .u32 0, .int .u8 0, .int .u8 0, .int .u32 0, .int .u64 0, .string ⟨#[]⟩] 27) H6.out)
        replace HB := Lib.hid (below_al (o := .cells #[.string ⟨#[]⟩, .int .u64 0, .int .u32 0, .int .u8 0, .int .u8 0, .int .u32 0, .int .u64 0, .string ⟨#[]⟩] 27) HB.out)
        refine hk2.out _ _ ?_ (fun hHeld => ?_)
        · (try dsimp only)
          exact ⟨(at3 HX.out).1, (at3 HX.out).2.1, (at3 HX.out).2.2.1⟩
        clear hK' hk2 K' hHeld
        (try simp only [Act.put, List.setIfInBounds_toArray, List.set_cons_zero, List.set_cons_succ])
        have l7 : W2.heap.size < (W2.alloc (.cells #[.string ⟨#[]⟩, .int .u64 0, .int .u32 0, .int .u8 0, .int .u8 0, .int .u32 0, .int .u64 0, .string ⟨#[]⟩] 27)).heap.size := At.lt H7.out
        generalize W2.alloc (.cells #[.string ⟨#[]⟩, .int .u64 0, .int .u32 0, .int .u8 0, .int .u8 0, .int .u32 0, .int .u64 0, .string ⟨#[]⟩] 27) = W3 at *
        generalize W2.heap.size = b7 at *
        obtain ⟨x0, x1, x2, x3, x4, x5, x6, x7, y0, y1, y2, y3, y4, y5, y6, y7⟩ := at8 H6.out
        refine Draw.call_d (i := 9) rfl (by kernel_rfl) (by rfl) (fun K' hK' => ?_)
        go_simp
        have hk2 := Lib.hid hK'.out
        replace HX := Lib.hid (at_set8_ne (v0 := .string ⟨#[97]⟩) (v1 := .int .u64 1) (v2 := .int .u32 2) (v3 := .int .u8 3) (v4 := .int .u8 1) (v5 := .int .u32 0) (v6 := .int .u64 0) (v7 := .string ⟨#[]⟩) HX.out (show w.heap.size ≠ b6 by omega))
        replace H7 := Lib.hid (at_set8_ne (v0 := .string ⟨#[97]⟩) (v1 := .int .u64 1) (v2 := .int .u32 2) (v3 := .int .u8 3) (v4 := .int .u8 1) (v5 := .int .u32 0) (v6 := .int .u64 0) (v7 := .string ⟨#[]⟩) H7.out (show b7 ≠ b6 by omega))
        replace H8 := Lib.hid (at_set8_ne (v0 := .string ⟨#[97]⟩) (v1 := .int .u64 1) (v2 := .int .u32 2) (v3 := .int .u8 3) (v4 := .int .u8 1) (v5 := .int .u32 0) (v6 := .int .u64 0) (v7 := .string ⟨#[]⟩) H8.out (show b8 ≠ b6 by omega))
        replace H6 := Lib.hid (at_set8 (v0 := .string ⟨#[97]⟩) (v1 := .int .u64 1) (v2 := .int .u32 2) (v3 := .int .u8 3) (v4 := .int .u8 1) (v5 := .int .u32 0) (v6 := .int .u64 0) (v7 := .string ⟨#[]⟩) H6.out)
        replace HB := Lib.hid (below_set8 (v0 := .string ⟨#[97]⟩) (v1 := .int .u64 1) (v2 := .int .u32 2) (v3 := .int .u8 3) (v4 := .int .u8 1) (v5 := .int .u32 0) (v6 := .int .u64 0) (v7 := .string ⟨#[]⟩) HB.out (show w.heap.size ≤ b6 by omega))
        refine hk2.out _ _ ?_ (fun hHeld => ?_)
        · (try dsimp only)
          exact ⟨(at3 HX.out).1, (at3 HX.out).2.1, (at3 HX.out).2.2.1⟩
        clear hK' hk2 K' hHeld x0 x1 x2 x3 x4 x5 x6 x7 y0 y1 y2 y3 y4 y5 y6 y7
        (try simp only [Act.put, List.setIfInBounds_toArray, List.set_cons_zero, List.set_cons_succ])
        generalize ((((((((W3.setCell ⟨b6, 0, none⟩ (.string ⟨#[97]⟩)).setCell ⟨b6, 1, none⟩ (.int .u64 1)).setCell ⟨b6, 2, none⟩ (.int .u32 2)).setCell ⟨b6, 3, none⟩ (.int .u8 3)).setCell ⟨b6, 4, none⟩ (.int .u8 1)).setCell ⟨b6, 5, none⟩ (.int .u32 0)).setCell ⟨b6, 6, none⟩ (.int .u64 0)).setCell ⟨b6, 7, none⟩ (.string ⟨#[]⟩)) = W4 at *
        obtain ⟨x0, x1, x2, x3, x4, x5, x6, x7, y0, y1, y2, y3, y4, y5, y6, y7⟩ := at8 H7.out
        refine Draw.call_d (i := 10) rfl (by kernel_rfl) (by rfl) (fun K' hK' => ?_)
        go_simp
        have hk2 := Lib.hid hK'.out
        replace HX := Lib.hid (at_set8_ne (v0 := .string ⟨#[97]⟩) (v1 := .int .u64 1) (v2 := .int .u32 2) (v3 := .int .u8 3) (v4 := .int .u8 2) (v5 := .int .u32 0) (v6 := .int .u64 0) (v7 := .string ⟨#[]⟩) HX.out (show w.heap.size ≠ b7 by omega))
        replace H6 := Lib.hid (at_set8_ne (v0 := .string ⟨#[97]⟩) (v1 := .int .u64 1) (v2 := .int .u32 2) (v3 := .int .u8 3) (v4 := .int .u8 2) (v5 := .int .u32 0) (v6 := .int .u64 0) (v7 := .string ⟨#[]⟩) H6.out (show b6 ≠ b7 by omega))
        replace H8 := Lib.hid (at_set8_ne (v0 := .string ⟨#[97]⟩) (v1 := .int .u64 1) (v2 := .int .u32 2) (v3 := .int .u8 3) (v4 := .int .u8 2) (v5 := .int .u32 0) (v6 := .int .u64 0) (v7 := .string ⟨#[]⟩) H8.out (show b8 ≠ b7 by omega))
        replace H7 := Lib.hid (at_set8 (v0 := .string ⟨#[97]⟩) (v1 := .int .u64 1) (v2 := .int .u32 2) (v3 := .int .u8 3) (v4 := .int .u8 2) (v5 := .int .u32 0) (v6 := .int .u64 0) (v7 := .string ⟨#[]⟩) H7.out)
        replace HB := Lib.hid (below_set8 (v0 := .string ⟨#[97]⟩) (v1 := .int .u64 1) (v2 := .int .u32 2) (v3 := .int .u8 3) (v4 := .int .u8 2) (v5 := .int .u32 0) (v6 := .int .u64 0) (v7 := .string ⟨#[]⟩) HB.out (show w.heap.size ≤ b7 by omega))
        refine hk2.out _ _ ?_ (fun hHeld => ?_)
        · (try dsimp only)
          exact ⟨(at3 HX.out).1, (at3 HX.out).2.1, (at3 HX.out).2.2.1⟩
        clear hK' hk2 K' hHeld x0 x1 x2 x3 x4 x5 x6 x7 y0 y1 y2 y3 y4 y5 y6 y7
        (try simp only [Act.put, List.setIfInBounds_toArray, List.set_cons_zero, List.set_cons_succ])
        generalize ((((((((W4.setCell ⟨b7, 0, none⟩ (.string ⟨#[97]⟩)).setCell ⟨b7, 1, none⟩ (.int .u64 1)).setCell ⟨b7, 2, none⟩ (.int .u32 2)).setCell ⟨b7, 3, none⟩ (.int .u8 3)).setCell ⟨b7, 4, none⟩ (.int .u8 2)).setCell ⟨b7, 5, none⟩ (.int .u32 0)).setCell ⟨b7, 6, none⟩ (.int .u64 0)).setCell ⟨b7, 7, none⟩ (.string ⟨#[]⟩)) = W5 at *
        obtain ⟨x0, x1, x2, x3, x4, x5, x6, x7, y0, y1, y2, y3, y4, y5, y6, y7⟩ := at8 H8.out
        refine Draw.call_d (i := 11) rfl (by kernel_rfl) (by rfl) (fun K' hK' => ?_)
        go_simp
        have hk2 := Lib.hid hK'.out
        replace HX := Lib.hid (at_set8_ne (v0 := .string ⟨#[97]⟩) (v1 := .int .u64 1) (v2 := .int .u32 2) (v3 := .int .u8 3) (v4 := .int .u8 3) (v5 := .int .u32 0) (v6 := .int .u64 0) (v7 := .string ⟨#[]⟩) HX.out (show w.heap.size ≠ b8 by omega))
        replace H6 := Lib.hid (at_set8_ne (v0 := .string ⟨#[97]⟩) (v1 := .int .u64 1) (v2 := .int .u32 2) (v3 := .int .u8 3) (v4 := .int .u8 3) (v5 := .int .u32 0) (v6 := .int .u64 0) (v7 := .string ⟨#[]⟩) H6.out (show b6 ≠ b8 by omega))
        replace H7 := Lib.hid (at_set8_ne (v0 := .string ⟨#[97]⟩) (v1 := .int .u64 1) (v2 := .int .u32 2) (v3 := .int .u8 3) (v4 := .int .u8 3) (v5 := .int .u32 0) (v6 := .int .u64 0) (v7 := .string ⟨#[]⟩) H7.out (show b7 ≠ b8 by omega))
        replace H8 := Lib.hid (at_set8 (v0 := .string ⟨#[97]⟩) (v1 := .int .u64 1) (v2 := .int .u32 2) (v3 := .int .u8 3) (v4 := .int .u8 3) (v5 := .int .u32 0) (v6 := .int .u64 0) (v7 := .string ⟨#[]⟩) H8.out)
        replace HB := Lib.hid (below_set8 (v0 := .string ⟨#[97]⟩) (v1 := .int .u64 1) (v2 := .int .u32 2) (v3 := .int .u8 3) (v4 := .int .u8 3) (v5 := .int .u32 0) (v6 := .int .u64 0) (v7 := .string ⟨#[]⟩) HB.out (show w.heap.size ≤ b8 by omega))
        refine hk2.out _ _ ?_ (fun hHeld => ?_)
        · (try dsimp only)
          exact ⟨(at3 HX.out).1, (at3 HX.out).2.1, (at3 HX.out).2.2.1⟩
        clear hK' hk2 K' hHeld x0 x1 x2 x3 x4 x5 x6 x7 y0 y1 y2 y3 y4 y5 y6 y7
        (try simp only [Act.put, List.setIfInBounds_toArray, List.set_cons_zero, List.set_cons_succ])
        generalize ((((((((W5.setCell ⟨b8, 0, none⟩ (.string ⟨#[97]⟩)).setCell ⟨b8, 1, none⟩ (.int .u64 1)).setCell ⟨b8, 2, none⟩ (.int .u32 2)).setCell ⟨b8, 3, none⟩ (.int .u8 3)).setCell ⟨b8, 4, none⟩ (.int .u8 3)).setCell ⟨b8, 5, none⟩ (.int .u32 0)).setCell ⟨b8, 6, none⟩ (.int .u64 0)).setCell ⟨b8, 7, none⟩ (.string ⟨#[]⟩)) = W6 at *
        refine wpAnyH_done (by kernel_rfl) ?_ _
        exact HK1.out b6 b7 b8 _ H6 H7 H8 HB
    case r8_7 =>
      intro K' hK'
      rw [if_pos (by rfl)]
      go_simp
      have hk2 := Lib.hid hK'.out
      have H7 := Lib.hid (at_new W1 #[.string ⟨#[]⟩, .int .u64 0, .int .u32 0, .int .u8 0, .int .u8 0, .int .u32 0, .int .u64 0, .string ⟨#[]⟩] 27)
      replace HX := Lib.hid (at_alloc (o := .cells #[.string ⟨#[]⟩, .int .u64 0, .int .u32 0, .int .u8 0, .int .u8 0, .int .u32 0, .int .u64 0, .string ⟨#[]⟩] 27) HX.out)
      replace H8 := Lib.hid (at_alloc (o := .cells #[.string ⟨#[]⟩, .int .u64 0, .int .u32 0, .int .u8 0, .int .u8 0, .int .u32 0, .int .u64 0, .string ⟨#[]⟩] 27) H8.out)
      replace HB := Lib.hid (below_al (o := .cells #[.string ⟨#[]⟩, .int .u64 0, .int .u32 0, .int .u8 0, .int .u8 0, .int .u32 0, .int .u64 0, .string ⟨#[]⟩] 27) HB.out)
      refine hk2.out _ _ ?_ (fun hHeld => ?_)
      · (try dsimp only)
        exact ⟨(at3 HX.out).1, (at3 HX.out).2.1, (at3 HX.out).2.2.1⟩
      clear hK' hk2 K' hHeld
      (try simp only [Act.put, List.setIfInBounds_toArray, List.set_cons_zero, List.set_cons_succ])
      have l7 : W1.heap.size < (W1.alloc (.cells #[.string ⟨#[]⟩, .int .u64 0, .int .u32 0, .int .u8 0, .int .u8 0, .int .u32 0, .int .u64 0, .string ⟨#[]⟩] 27)).heap.size := At.lt H7.out
      generalize W1.alloc (.cells #[.string ⟨#[]⟩, .int .u64 0, .int .u32 0, .int .u8 0, .int .u8 0, .int .u32 0, .int .u64 0, .string ⟨#[]⟩] 27) = W2 at *
      generalize W1.heap.size = b7 at *
      refine wpAnyH_ready (rs := [6]) (by kernel_rfl) (by simp) (AllReadyH.cons (Draw.nth (i := 6) rfl) ?r8_7_6 (AllReadyH.nil))
      case r8_7_6 =>
        intro K' hK'
        rw [if_pos (by rfl)]
        go_simp
        have hk2 := Lib.hid hK'.out
        have H6 := Lib.hid (at_new W2 #[.string ⟨#[]⟩, .int .u64 0, .int .u32 0, .int .u8 0, .int .u8 0, .int .u32 0, .int .u64 0, .string ⟨#[]⟩] 27)
        replace HX := Lib.hid (at_alloc (o := .cells #[.string ⟨#[]⟩, .int .u64 0, .int .u32 0, .int .u8 0, .int .u8 0, .int .u32 0, .int .u64 0, .string ⟨#[]⟩] 27) HX.out)
        replace H8 := Lib.hid (at_alloc (o := .cells #[.string ⟨#[]⟩, .int .u64 0, .int .u32 0, .int .u8 0, .int .u8 0, .int .u32 0, .int .u64 0, .string ⟨#[]⟩] 27) H8.out)
        replace H7 := Lib.hid (at_alloc (o := .cells #[.string ⟨#[]⟩, .int .u64 0, .int .u32 0, .int .u8 0, .int .u8 0, .int .u32 0, .int .u64 0, .string ⟨#[]⟩] 27) H7.out)
        replace HB := Lib.hid (below_al (o := .cells #[.string ⟨#[]⟩, .int .u64 0, .int .u32 0, .int .u8 0, .int .u8 0, .int .u32 0, .int .u64 0, .string ⟨#[]⟩] 27) HB.out)
        refine hk2.out _ _ ?_ (fun hHeld => ?_)
        · (try dsimp only)
          exact ⟨(at3 HX.out).1, (at3 HX.out).2.1, (at3 HX.out).2.2.1⟩
        clear hK' hk2 K' hHeld
        (try simp only [Act.put, List.setIfInBounds_toArray, List.set_cons_zero, List.set_cons_succ])
        have l6 : W2.heap.size < (W2.alloc (.cells #[.string ⟨#[]⟩, .int .u64 0, .int .u32 0, .int .u8 0, .int .u8 0, .int .u32 0, .int .u64 0, .string ⟨#[]⟩] 27)).heap.size := At.lt H6.out
        generalize W2.alloc (.cells #[.string ⟨#[]⟩, .int .u64 0, .int .u32 0, .int .u8 0, .int .u8 0, .int .u32 0, .int .u64 0, .string ⟨#[]⟩] 27) = W3 at *
        generalize W2.heap.size = b6 at *
        obtain ⟨x0, x1, x2, x3, x4, x5, x6, x7, y0, y1, y2, y3, y4, y5, y6, y7⟩ := at8 H6.out
        refine Draw.call_d (i := 9) rfl (by kernel_rfl) (by rfl) (fun K' hK' => ?_)
        go_simp
        have hk2 := Lib.hid hK'.out
        replace HX := Lib.hid (at_set8_ne (v0 := .string ⟨#[97]⟩) (v1 := .int .u64 1) (v2 := .int .u32 2) (v3 := .int .u8 3) (v4 := .int .u8 1) (v5 := .int .u32 0) (v6 := .int .u64 0) (v7 := .string ⟨#[]⟩) HX.out (show w.heap.size ≠ b6 by omega))
        replace H7 := Lib.hid (at_set8_ne (v0 := .string ⟨#[97]⟩) (v1 := .int .u64 1) (v2 := .int .u32 2) (v3 := .int .u8 3) (v4 := .int .u8 1) (v5 := .int .u32 0) (v6 := .int .u64 0) (v7 := .string ⟨#[]⟩) H7.out (show b7 ≠ b6 by omega))
        replace H8 := Lib.hid (at_set8_ne (v0 := .string ⟨#[97]⟩) (v1 := .int .u64 1) (v2 := .int .u32 2) (v3 := .int .u8 3) (v4 := .int .u8 1) (v5 := .int .u32 0) (v6 := .int .u64 0) (v7 := .string ⟨#[]⟩) H8.out (show b8 ≠ b6 by omega))
        replace H6 := Lib.hid (at_set8 (v0 := .string ⟨#[97]⟩) (v1 := .int .u64 1) (v2 := .int .u32 2) (v3 := .int .u8 3) (v4 := .int .u8 1) (v5 := .int .u32 0) (v6 := .int .u64 0) (v7 := .string ⟨#[]⟩) H6.out)
        replace HB := Lib.hid (below_set8 (v0 := .string ⟨#[97]⟩) (v1 := .int .u64 1) (v2 := .int .u32 2) (v3 := .int .u8 3) (v4 := .int .u8 1) (v5 := .int .u32 0) (v6 := .int .u64 0) (v7 := .string ⟨#[]⟩) HB.out (show w.heap.size ≤ b6 by omega))
        refine hk2.out _ _ ?_ (fun hHeld => ?_)
        · (try dsimp only)
          exact ⟨(at3 HX.out).1, (at3 HX.out).2.1, (at3 HX.out).2.2.1⟩
        clear hK' hk2 K' hHeld x0 x1 x2 x3 x4 x5 x6 x7 y0 y1 y2 y3 y4 y5 y6 y7
        (try simp only [Act.put, List.setIfInBounds_toArray, List.set_cons_zero, List.set_cons_succ])
        generalize ((((((((W3.setCell ⟨b6, 0, none⟩ (.string ⟨#[97]⟩)).setCell ⟨b6, 1, none⟩ (.int .u64 1)).setCell ⟨b6, 2, none⟩ (.int .u32 2)).setCell ⟨b6, 3, none⟩ (.int .u8 3)).setCell ⟨b6, 4, none⟩ (.int .u8 1)).setCell ⟨b6, 5, none⟩ (.int .u32 0)).setCell ⟨b6, 6, none⟩ (.int .u64 0)).setCell ⟨b6, 7, none⟩ (.string ⟨#[]⟩)) = W4 at *
        obtain ⟨x0, x1, x2, x3, x4, x5, x6, x7, y0, y1, y2, y3, y4, y5, y6, y7⟩ := at8 H7.out
        refine Draw.call_d (i := 10) rfl (by kernel_rfl) (by rfl) (fun K' hK' => ?_)
        go_simp
        have hk2 := Lib.hid hK'.out
        replace HX := Lib.hid (at_set8_ne (v0 := .string ⟨#[97]⟩) (v1 := .int .u64 1) (v2 := .int .u32 2) (v3 := .int .u8 3) (v4 := .int .u8 2) (v5 := .int .u32 0) (v6 := .int .u64 0) (v7 := .string ⟨#[]⟩) HX.out (show w.heap.size ≠ b7 by omega))
        replace H6 := Lib.hid (at_set8_ne (v0 := .string ⟨#[97]⟩) (v1 := .int .u64 1) (v2 := .int .u32 2) (v3 := .int .u8 3) (v4 := .int .u8 2) (v5 := .int .u32 0) (v6 := .int .u64 0) (v7 := .string ⟨#[]⟩) H6.out (show b6 ≠ b7 by omega))
        replace H8 := Lib.hid (at_set8_ne (v0 := .string ⟨#[97]⟩) (v1 := .int .u64 1) (v2 := .int .u32 2) (v3 := .int .u8 3) (v4 := .int .u8 2) (v5 := .int .u32 0) (v6 := .int .u64 0) (v7 := .string ⟨#[]⟩) H8.out (show b8 ≠ b7 by omega))
        replace H7 := Lib.hid (at_set8 (v0 := .string ⟨#[97]⟩) (v1 := .int .u64 1) (v2 := .int .u32 2) (v3 := .int .u8 3) (v4 := .int .u8 2) (v5 := .int .u32 0) (v6 := .int .u64 0) (v7 := .string ⟨#[]⟩) H7.out)
        replace HB := Lib.hid (below_set8 (v0 := .string ⟨#[97]⟩) (v1 := .int .u64 1) (v2 := .int .u32 2) (v3 := .int .u8 3) (v4 := .int .u8 2) (v5 := .int .u32 0) (v6 := .int .u64 0) (v7 := .string ⟨#[]⟩) HB.out (show w.heap.size ≤ b7 by omega))
        refine hk2.out _ _ ?_ (fun hHeld => ?_)
        · (try dsimp only)
          exact ⟨(at3 HX.out).1, (at3 HX.out).2.1, (at3 HX.out).2.2.1⟩
        clear hK' hk2 K' hHeld x0 x1 x2 x3 x4 x5 x6 x7 y0 y1 y2 y3 y4 y5 y6 y7
        (try simp only [Act.put, List.setIfInBounds_toArray, List.set_cons_zero, List.set_cons_succ])
        generalize ((((((((W4.setCell ⟨b7, 0, none⟩ (.string ⟨#[97]⟩)).setCell ⟨b7, 1, none⟩ (.int .u64 1)).setCell ⟨b7, 2, none⟩ (.int .u32 2)).setCell ⟨b7, 3, none⟩ (.int .u8 3)).setCell ⟨b7, 4, none⟩ (.int .u8 2)).setCell ⟨b7, 5, none⟩ (.int .u32 0)).setCell ⟨b7, 6, none⟩ (.int .u64 0)).setCell ⟨b7, 7, none⟩ (.string ⟨#[]⟩)) = W5 at *
        obtain ⟨x0, x1, x2, x3, x4, x5, x6, x7, y0, y1, y2, y3, y4, y5, y6, y7⟩ := at8 H8.out
        refine Draw.call_d (i := 11) rfl (by kernel_rfl) (by rfl) (fun K' hK' => ?_)
        go_simp
        have hk2 := Lib.hid hK'.out
        replace HX := Lib.hid (at_set8_ne (v0 := .string ⟨#[97]⟩) (v1 := .int .u64 1) (v2 := .int .u32 2) (v3 := .int .u8 3) (v4 := .int .u8 3) (v5 := .int .u32 0) (v6 := .int .u64 0) (v7 := .string ⟨#[]⟩) HX.out (show w.heap.size ≠ b8 by omega))
        replace H6 := Lib.hid (at_set8_ne (v0 := .string ⟨#[97]⟩) (v1 := .int .u64 1) (v2 := .int .u32 2) (v3 := .int .u8 3) (v4 := .int .u8 3) (v5 := .int .u32 0) (v6 := .int .u64 0) (v7 := .string ⟨#[]⟩) H6.out (show b6 ≠ b8 by omega))
        replace H7 := Lib.hid (at_set8_ne (v0 := .string ⟨#[97]⟩) (v1 := .int .u64 1) (v2 := .int .u32 2) (v3 := .int .u8 3) (v4 := .int .u8 3) (v5 := .int .u32 0) (v6 := .int .u64 0) (v7 := .string ⟨#[]⟩) H7.out (show b7 ≠ b8 by omega))
        replace H8 := Lib.hid (at_set8 (v0 := .string ⟨#[97]⟩) (v1 := .int .u64 1) (v2 := .int .u32 2) (v3 := .int .u8 3) (v4 := .int .u8 3) (v5 := .int .u32 0) (v6 := .int .u64 0) (v7 := .string ⟨#[]⟩) H8.out)
        replace HB := Lib.hid (below_set8 (v0 := .string ⟨#[97]⟩) (v1 := .int .u64 1) (v2 := .int .u32 2) (v3 := .int .u8 3) (v4 := .int .u8 3) (v5 := .int .u32 0) (v6 := .int .u64 0) (v7 := .string ⟨#[]⟩) HB.out (show w.heap.size ≤ b8 by omega))
        refine hk2.out _ _ ?_ (fun hHeld => ?_)
        · (try dsimp only)
          exact ⟨(at3 HX.out).1, (at3 HX.out).2.1, (at3 HX.out).2.2.1⟩
        clear hK' hk2 K' hHeld x0 x1 x2 x3 x4 x5 x6 x7 y0 y1 y2 y3 y4 y5 y6 y7
        (try simp only [Act.put, List.setIfInBounds_toArray, List.set_cons_zero, List.set_cons_succ])
        generalize ((((((((W5.setCell ⟨b8, 0, none⟩ (.string ⟨#[97]⟩)).setCell ⟨b8, 1, none⟩ (.int .u64 1)).setCell ⟨b8, 2, none⟩ (.int .u32 2)).setCell ⟨b8, 3, none⟩ (.int .u8 3)).setCell ⟨b8, 4, none⟩ (.int .u8 3)).setCell ⟨b8, 5, none⟩ (.int .u32 0)).setCell ⟨b8, 6, none⟩ (.int .u64 0)).setCell ⟨b8, 7, none⟩ (.string ⟨#[]⟩)) = W6 at *
        refine wpAnyH_done (by kernel_rfl) ?_ _
        exact HK1.out b6 b7 b8 _ H6 H7 H8 HB
end Go.Proofs.Ytlohnhjfdmldnaa.Rec

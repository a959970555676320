/- RecOver answers true: the walk (own text; printed by wip/tools/gen_reclaws.py, a program of this session). -/
import Derived.Test.YtlohnhjfdmldnaaRecFixed
import Derived.Test.YtlohnhjfdmldnaaRecGreat
namespace Go.Proofs.Ytlohnhjfdmldnaa.Rec
open Go.Proofs.Ytlohnhjfdmldnaa Go.RowKit Go.Proofs.Ytlohnhjfdmldnaa.Mem Go.Proofs.Ytlohnhjfdmldnaa.Hlc
set_option linter.unusedVariables false
set_option linter.unusedSimpArgs false
theorem over_great (rk : ByteArray) (rp rl rn rd rf rx : Int) (rb : ByteArray) (s t : Int) (w : World) (hg : gr rk rb = true) : Calls Try.prog 4 #[.agg #[.string rk, .int .u64 rp, .int .u32 rl, .int .u8 rn, .int .u8 rd, .int .u32 rf, .int .u64 rx, .string rb], .int .u64 s, .int .u64 t] w fun e w' => e = .returned (.bool true) ∧ Below w.heap.size w w' := by
  have HG := Lib.hid (fun b t w h => great1 rk rp rl rn rd rf rx rb b t w h)
  rw [hg] at HG
  go_enter Try.func4, Try.ntmps4
  go_wp2_with (fail)
  have hA2 := at_new (w.alloc (.cells #[.string rk, .int .u64 rp, .int .u32 rl, .int .u8 rn, .int .u8 rd, .int .u32 rf, .int .u64 rx, .string rb] 27)) #[.string rk, .int .u64 rp, .int .u32 rl, .int .u8 rn, .int .u8 rd, .int .u32 rf, .int .u64 rx, .string rb] 27
  rw [World.size_alloc] at hA2
  refine (HG.out (w.heap.size + 1) _ _ hA2).mono ?_
  rintro e w1 ⟨rfl, b1⟩
  clear hA2
  have HA := Lib.hid (at_below (at_alloc (o := .cells #[.string rk, .int .u64 rp, .int .u32 rl, .int .u8 rn, .int .u8 rd, .int .u32 rf, .int .u64 rx, .string rb] 27) (at_new w #[.string rk, .int .u64 rp, .int .u32 rl, .int .u8 rn, .int .u8 rd, .int .u32 rf, .int .u64 rx, .string rb] 27)) b1)
  have HB := Lib.hid (below_on (below_al (o := .cells #[.string rk, .int .u64 rp, .int .u32 rl, .int .u8 rn, .int .u8 rd, .int .u32 rf, .int .u64 rx, .string rb] 27) (below_al (o := .cells #[.string rk, .int .u64 rp, .int .u32 rl, .int .u8 rn, .int .u8 rd, .int .u32 rf, .int .u64 rx, .string rb] 27) (Below.refl w.heap.size w))) b1)
  clear b1
  go_wp2_with (fail)
  refine (fixed_any _).mono ?_
  rintro e w2 ⟨rfl, b2⟩
  go_wp2_with (fail)
  go_ret
  exact ⟨rfl, below_on HB.out b2⟩
set_option maxRecDepth 100000 in
set_option maxHeartbeats 1600000 in
theorem over_a0 (rk : ByteArray) (rp rl rn rd rf rx : Int) (rb : ByteArray) (s t : Int) (w : World) (hg : gr rk rb = false) (hst : s ≤ t) (h1 : ¬ rd = 3) : Calls Try.prog 4 #[.agg #[.string rk, .int .u64 rp, .int .u32 rl, .int .u8 rn, .int .u8 rd, .int .u32 rf, .int .u64 rx, .string rb], .int .u64 s, .int .u64 t] w fun e w' => e = .returned (.bool true) ∧ Below w.heap.size w w' := by
  have HG := Lib.hid (fun b t w h => great1 rk rp rl rn rd rf rx rb b t w h)
  rw [hg] at HG
  have l1 : liveR rd rx t = false := if_neg h1
  have l2 : liveR rd rx s = false := if_neg h1
  have c1 : (rd == 3) = false := beq_eq_false_iff_ne.2 h1
  have c2 : (rd != 3) = true := bne_iff_ne.2 h1
  have c9 : decide (t < s) = false := decide_eq_false (by omega)
  have g1 := fun w => live_any rk rp rl rn rd rf rx rb t w
  have g2 := fun w => live_any rk rp rl rn rd rf rx rb s w
  rw [l1] at g1
  rw [l2] at g2
  have H0 := Lib.hid fixed_any
  have H1 := Lib.hid g1
  have H2 := Lib.hid g2
  clear l1 l2 g1 g2 h1
  go_enter Try.func4, Try.ntmps4
  go_wp2_with (fail)
  have hA2 := at_new (w.alloc (.cells #[.string rk, .int .u64 rp, .int .u32 rl, .int .u8 rn, .int .u8 rd, .int .u32 rf, .int .u64 rx, .string rb] 27)) #[.string rk, .int .u64 rp, .int .u32 rl, .int .u8 rn, .int .u8 rd, .int .u32 rf, .int .u64 rx, .string rb] 27
  rw [World.size_alloc] at hA2
  refine (HG.out (w.heap.size + 1) _ _ hA2).mono ?_
  rintro e w1 ⟨rfl, b1⟩
  clear hA2
  have HA := Lib.hid (at_below (at_alloc (o := .cells #[.string rk, .int .u64 rp, .int .u32 rl, .int .u8 rn, .int .u8 rd, .int .u32 rf, .int .u64 rx, .string rb] 27) (at_new w #[.string rk, .int .u64 rp, .int .u32 rl, .int .u8 rn, .int .u8 rd, .int .u32 rf, .int .u64 rx, .string rb] 27)) b1)
  have HB := Lib.hid (below_on (below_al (o := .cells #[.string rk, .int .u64 rp, .int .u32 rl, .int .u8 rn, .int .u8 rd, .int .u32 rf, .int .u64 rx, .string rb] 27) (below_al (o := .cells #[.string rk, .int .u64 rp, .int .u32 rl, .int .u8 rn, .int .u8 rd, .int .u32 rf, .int .u64 rx, .string rb] 27) (Below.refl w.heap.size w))) b1)
  clear b1
  go_wp2_with (fail)
  replace HA := Lib.hid (at_drew HA.out)
  replace HB := Lib.hid (Below.drew HB.out)
  refine wp_region_held_drew (S := (fun W => W.cell? ⟨w.heap.size, 0, none⟩ = some (.string rk) ∧ W.cell? ⟨w.heap.size, 1, none⟩ = some (.int .u64 rp) ∧ W.cell? ⟨w.heap.size, 2, none⟩ = some (.int .u32 rl) ∧ W.cell? ⟨w.heap.size, 3, none⟩ = some (.int .u8 rn) ∧ W.cell? ⟨w.heap.size, 4, none⟩ = some (.int .u8 rd) ∧ W.cell? ⟨w.heap.size, 5, none⟩ = some (.int .u32 rf) ∧ W.cell? ⟨w.heap.size, 6, none⟩ = some (.int .u64 rx) ∧ W.cell? ⟨w.heap.size, 7, none⟩ = some (.string rb))) (by kernel_rfl) ?_ (fun hHeld => ?_)
  · (try dsimp only)
    exact ⟨(at8 HA.out).1, (at8 HA.out).2.1, (at8 HA.out).2.2.1, (at8 HA.out).2.2.2.1, (at8 HA.out).2.2.2.2.1, (at8 HA.out).2.2.2.2.2.1, (at8 HA.out).2.2.2.2.2.2.1, (at8 HA.out).2.2.2.2.2.2.2.1⟩
  refine Draw.take_w (i := 0) (v := ?vv26) rfl (by kernel_rfl) (by kernel_rfl) (by kernel_rfl) (fun _ _ _ h => h) (by rfl) ?hy26 (by assumption) ?rest26
  case hy26 => ((intro w hSw); (try dsimp only at hSw); go_simp; (try with_reducible rfl))
  (try simp only [Act.put, List.setIfInBounds_toArray, List.set_cons_zero, List.set_cons_succ])
  refine Draw.take_w (i := 1) (v := ?vv27) rfl (by kernel_rfl) (by kernel_rfl) (by kernel_rfl) (fun _ _ _ h => h) (by rfl) ?hy27 (by assumption) ?rest27
  case hy27 => ((intro w hSw); (try dsimp only at hSw); go_simp; (try with_reducible rfl))
  (try simp only [Act.put, List.setIfInBounds_toArray, List.set_cons_zero, List.set_cons_succ])
  refine Draw.take_w (i := 3) (v := ?vv28) rfl (by kernel_rfl) (by kernel_rfl) (by kernel_rfl) (fun _ _ _ h => h) (by rfl) ?hy28 (by assumption) ?rest28
  case hy28 => ((intro w hSw); (try dsimp only at hSw); go_simp; (try with_reducible rfl))
  (try simp only [Act.put, List.setIfInBounds_toArray, List.set_cons_zero, List.set_cons_succ])
  refine Draw.take_w (i := 4) (v := ?vv29) rfl (by kernel_rfl) (by kernel_rfl) (by kernel_rfl) (fun _ _ _ h => h) (by rfl) ?hy29 (by assumption) ?rest29
  case hy29 => ((intro w hSw); (try dsimp only at hSw); go_simp; (try with_reducible rfl))
  (try simp only [Act.put, List.setIfInBounds_toArray, List.set_cons_zero, List.set_cons_succ])
  refine Draw.call_d (i := 2) rfl (by kernel_rfl) (by rfl) (fun K hK => ?_)
  go_simp
  refine (H1.out _).mono ?_
  rintro e w2 ⟨rfl, b2⟩
  replace HA := Lib.hid (at_below HA.out b2)
  replace HB := Lib.hid (below_on HB.out b2)
  clear b2
  refine hK.out _ _ ?_ (fun hHeld => ?_)
  · (try dsimp only)
    exact ⟨(at8 HA.out).1, (at8 HA.out).2.1, (at8 HA.out).2.2.1, (at8 HA.out).2.2.2.1, (at8 HA.out).2.2.2.2.1, (at8 HA.out).2.2.2.2.2.1, (at8 HA.out).2.2.2.2.2.2.1, (at8 HA.out).2.2.2.2.2.2.2.1⟩
  clear hK K
  (try simp only [Act.put, List.setIfInBounds_toArray, List.set_cons_zero, List.set_cons_succ])
  refine Draw.call_d (i := 5) rfl (by kernel_rfl) (by rfl) (fun K hK => ?_)
  go_simp
  refine (H2.out _).mono ?_
  rintro e w3 ⟨rfl, b2⟩
  replace HA := Lib.hid (at_below HA.out b2)
  replace HB := Lib.hid (below_on HB.out b2)
  clear b2
  refine hK.out _ _ ?_ (fun hHeld => ?_)
  · (try dsimp only)
    exact ⟨(at8 HA.out).1, (at8 HA.out).2.1, (at8 HA.out).2.2.1, (at8 HA.out).2.2.2.1, (at8 HA.out).2.2.2.2.1, (at8 HA.out).2.2.2.2.2.1, (at8 HA.out).2.2.2.2.2.2.1, (at8 HA.out).2.2.2.2.2.2.2.1⟩
  clear hK K
  (try simp only [Act.put, List.setIfInBounds_toArray, List.set_cons_zero, List.set_cons_succ])
  refine Draw.take_w (i := 6) (v := ?vv30) rfl (by kernel_rfl) (by kernel_rfl) (by kernel_rfl) (fun _ _ _ h => h) (by rfl) ?hy30 (by assumption) ?rest30
  case hy30 => ((intro w hSw); (try dsimp only at hSw); go_simp; (try with_reducible rfl))
  (try simp only [Act.put, List.setIfInBounds_toArray, List.set_cons_zero, List.set_cons_succ])
  refine Draw.take_w (i := 7) (v := ?vv31) rfl (by kernel_rfl) (by kernel_rfl) (by kernel_rfl) (fun _ _ _ h => h) (by rfl) ?hy31 (by assumption) ?rest31
  case hy31 => ((intro w hSw); (try dsimp only at hSw); go_simp; (try with_reducible rfl))
  (try simp only [Act.put, List.setIfInBounds_toArray, List.set_cons_zero, List.set_cons_succ])
  refine wpAnyH_done (by kernel_rfl) ?_ _
  obtain ⟨x0, x1, x2, x3, x4, x5, x6, x7, -⟩ := at8 HA.out
  go_wp2_with (fail)
  clear x0 x1 x2 x3 x4 x5 x6 x7
  refine (H0.out _).mono ?_
  rintro e w4 ⟨rfl, b2⟩
  replace HA := Lib.hid (at_below HA.out b2)
  replace HB := Lib.hid (below_on HB.out b2)
  clear b2
  obtain ⟨x0, x1, x2, x3, x4, x5, x6, x7, -⟩ := at8 HA.out
  go_wp2_with (fail)
  go_ret
  exact ⟨rfl, HB.out⟩
set_option maxRecDepth 100000 in
set_option maxHeartbeats 1600000 in
theorem over_b0 (rk : ByteArray) (rp rl rn rd rf rx : Int) (rb : ByteArray) (s t : Int) (w : World) (hg : gr rk rb = false) (hst : s ≤ t) (h1 : rd = 3) (h2 : rx = 0) : Calls Try.prog 4 #[.agg #[.string rk, .int .u64 rp, .int .u32 rl, .int .u8 rn, .int .u8 rd, .int .u32 rf, .int .u64 rx, .string rb], .int .u64 s, .int .u64 t] w fun e w' => e = .returned (.bool true) ∧ Below w.heap.size w w' := by
  have HG := Lib.hid (fun b t w h => great1 rk rp rl rn rd rf rx rb b t w h)
  rw [hg] at HG
  have l1 : liveR rd rx t = true := by unfold liveR; rw [if_pos h1, if_pos h2]
  have l2 : liveR rd rx s = true := by unfold liveR; rw [if_pos h1, if_pos h2]
  have c1 : (rd == 3) = true := beq_iff_eq.2 h1
  have c2 : (rd != 3) = false := by rw [h1]; rfl
  have c3 : (rx != 0) = false := by rw [h2]; rfl
  have c9 : decide (t < s) = false := decide_eq_false (by omega)
  have g1 := fun w => live_any rk rp rl rn rd rf rx rb t w
  have g2 := fun w => live_any rk rp rl rn rd rf rx rb s w
  rw [l1] at g1
  rw [l2] at g2
  have H0 := Lib.hid fixed_any
  have H1 := Lib.hid g1
  have H2 := Lib.hid g2
  clear l1 l2 g1 g2 h1 h2
  go_enter Try.func4, Try.ntmps4
  go_wp2_with (fail)
  have hA2 := at_new (w.alloc (.cells #[.string rk, .int .u64 rp, .int .u32 rl, .int .u8 rn, .int .u8 rd, .int .u32 rf, .int .u64 rx, .string rb] 27)) #[.string rk, .int .u64 rp, .int .u32 rl, .int .u8 rn, .int .u8 rd, .int .u32 rf, .int .u64 rx, .string rb] 27
  rw [World.size_alloc] at hA2
  refine (HG.out (w.heap.size + 1) _ _ hA2).mono ?_
  rintro e w1 ⟨rfl, b1⟩
  clear hA2
  have HA := Lib.hid (at_below (at_alloc (o := .cells #[.string rk, .int .u64 rp, .int .u32 rl, .int .u8 rn, .int .u8 rd, .int .u32 rf, .int .u64 rx, .string rb] 27) (at_new w #[.string rk, .int .u64 rp, .int .u32 rl, .int .u8 rn, .int .u8 rd, .int .u32 rf, .int .u64 rx, .string rb] 27)) b1)
  have HB := Lib.hid (below_on (below_al (o := .cells #[.string rk, .int .u64 rp, .int .u32 rl, .int .u8 rn, .int .u8 rd, .int .u32 rf, .int .u64 rx, .string rb] 27) (below_al (o := .cells #[.string rk, .int .u64 rp, .int .u32 rl, .int .u8 rn, .int .u8 rd, .int .u32 rf, .int .u64 rx, .string rb] 27) (Below.refl w.heap.size w))) b1)
  clear b1
  go_wp2_with (fail)
  replace HA := Lib.hid (at_drew HA.out)
  replace HB := Lib.hid (Below.drew HB.out)
  refine wp_region_held_drew (S := (fun W => W.cell? ⟨w.heap.size, 0, none⟩ = some (.string rk) ∧ W.cell? ⟨w.heap.size, 1, none⟩ = some (.int .u64 rp) ∧ W.cell? ⟨w.heap.size, 2, none⟩ = some (.int .u32 rl) ∧ W.cell? ⟨w.heap.size, 3, none⟩ = some (.int .u8 rn) ∧ W.cell? ⟨w.heap.size, 4, none⟩ = some (.int .u8 rd) ∧ W.cell? ⟨w.heap.size, 5, none⟩ = some (.int .u32 rf) ∧ W.cell? ⟨w.heap.size, 6, none⟩ = some (.int .u64 rx) ∧ W.cell? ⟨w.heap.size, 7, none⟩ = some (.string rb))) (by kernel_rfl) ?_ (fun hHeld => ?_)
  · (try dsimp only)
    exact ⟨(at8 HA.out).1, (at8 HA.out).2.1, (at8 HA.out).2.2.1, (at8 HA.out).2.2.2.1, (at8 HA.out).2.2.2.2.1, (at8 HA.out).2.2.2.2.2.1, (at8 HA.out).2.2.2.2.2.2.1, (at8 HA.out).2.2.2.2.2.2.2.1⟩
  refine Draw.take_w (i := 0) (v := ?vv32) rfl (by kernel_rfl) (by kernel_rfl) (by kernel_rfl) (fun _ _ _ h => h) (by rfl) ?hy32 (by assumption) ?rest32
  case hy32 => ((intro w hSw); (try dsimp only at hSw); go_simp; (try with_reducible rfl))
  (try simp only [Act.put, List.setIfInBounds_toArray, List.set_cons_zero, List.set_cons_succ])
  refine Draw.take_w (i := 1) (v := ?vv33) rfl (by kernel_rfl) (by kernel_rfl) (by kernel_rfl) (fun _ _ _ h => h) (by rfl) ?hy33 (by assumption) ?rest33
  case hy33 => ((intro w hSw); (try dsimp only at hSw); go_simp; (try with_reducible rfl))
  (try simp only [Act.put, List.setIfInBounds_toArray, List.set_cons_zero, List.set_cons_succ])
  refine Draw.take_w (i := 3) (v := ?vv34) rfl (by kernel_rfl) (by kernel_rfl) (by kernel_rfl) (fun _ _ _ h => h) (by rfl) ?hy34 (by assumption) ?rest34
  case hy34 => ((intro w hSw); (try dsimp only at hSw); go_simp; (try with_reducible rfl))
  (try simp only [Act.put, List.setIfInBounds_toArray, List.set_cons_zero, List.set_cons_succ])
  refine Draw.take_w (i := 4) (v := ?vv35) rfl (by kernel_rfl) (by kernel_rfl) (by kernel_rfl) (fun _ _ _ h => h) (by rfl) ?hy35 (by assumption) ?rest35
  case hy35 => ((intro w hSw); (try dsimp only at hSw); go_simp; (try with_reducible rfl))
  (try simp only [Act.put, List.setIfInBounds_toArray, List.set_cons_zero, List.set_cons_succ])
  refine Draw.call_d (i := 2) rfl (by kernel_rfl) (by rfl) (fun K hK => ?_)
  go_simp
  refine (H1.out _).mono ?_
  rintro e w2 ⟨rfl, b2⟩
  replace HA := Lib.hid (at_below HA.out b2)
  replace HB := Lib.hid (below_on HB.out b2)
  clear b2
  refine hK.out _ _ ?_ (fun hHeld => ?_)
  · (try dsimp only)
    exact ⟨(at8 HA.out).1, (at8 HA.out).2.1, (at8 HA.out).2.2.1, (at8 HA.out).2.2.2.1, (at8 HA.out).2.2.2.2.1, (at8 HA.out).2.2.2.2.2.1, (at8 HA.out).2.2.2.2.2.2.1, (at8 HA.out).2.2.2.2.2.2.2.1⟩
  clear hK K
  (try simp only [Act.put, List.setIfInBounds_toArray, List.set_cons_zero, List.set_cons_succ])
  refine Draw.call_d (i := 5) rfl (by kernel_rfl) (by rfl) (fun K hK => ?_)
  go_simp
  refine (H2.out _).mono ?_
  rintro e w3 ⟨rfl, b2⟩
  replace HA := Lib.hid (at_below HA.out b2)
  replace HB := Lib.hid (below_on HB.out b2)
  clear b2
  refine hK.out _ _ ?_ (fun hHeld => ?_)
  · (try dsimp only)
    exact ⟨(at8 HA.out).1, (at8 HA.out).2.1, (at8 HA.out).2.2.1, (at8 HA.out).2.2.2.1, (at8 HA.out).2.2.2.2.1, (at8 HA.out).2.2.2.2.2.1, (at8 HA.out).2.2.2.2.2.2.1, (at8 HA.out).2.2.2.2.2.2.2.1⟩
  clear hK K
  (try simp only [Act.put, List.setIfInBounds_toArray, List.set_cons_zero, List.set_cons_succ])
  refine Draw.take_w (i := 6) (v := ?vv36) rfl (by kernel_rfl) (by kernel_rfl) (by kernel_rfl) (fun _ _ _ h => h) (by rfl) ?hy36 (by assumption) ?rest36
  case hy36 => ((intro w hSw); (try dsimp only at hSw); go_simp; (try with_reducible rfl))
  (try simp only [Act.put, List.setIfInBounds_toArray, List.set_cons_zero, List.set_cons_succ])
  refine Draw.take_w (i := 7) (v := ?vv37) rfl (by kernel_rfl) (by kernel_rfl) (by kernel_rfl) (fun _ _ _ h => h) (by rfl) ?hy37 (by assumption) ?rest37
  case hy37 => ((intro w hSw); (try dsimp only at hSw); go_simp; (try with_reducible rfl))
  (try simp only [Act.put, List.setIfInBounds_toArray, List.set_cons_zero, List.set_cons_succ])
  refine wpAnyH_done (by kernel_rfl) ?_ _
  obtain ⟨x0, x1, x2, x3, x4, x5, x6, x7, -⟩ := at8 HA.out
  go_wp2_with (fail)
  clear x0 x1 x2 x3 x4 x5 x6 x7
  refine (H0.out _).mono ?_
  rintro e w4 ⟨rfl, b2⟩
  replace HA := Lib.hid (at_below HA.out b2)
  replace HB := Lib.hid (below_on HB.out b2)
  clear b2
  obtain ⟨x0, x1, x2, x3, x4, x5, x6, x7, -⟩ := at8 HA.out
  go_wp2_with (fail)
  go_ret
  exact ⟨rfl, HB.out⟩
set_option maxRecDepth 100000 in
set_option maxHeartbeats 1600000 in
theorem over_c0 (rk : ByteArray) (rp rl rn rd rf rx : Int) (rb : ByteArray) (s t : Int) (w : World) (hg : gr rk rb = false) (hst : s ≤ t) (h1 : rd = 3) (h2 : ¬ rx = 0) (h3 : t < rx) : Calls Try.prog 4 #[.agg #[.string rk, .int .u64 rp, .int .u32 rl, .int .u8 rn, .int .u8 rd, .int .u32 rf, .int .u64 rx, .string rb], .int .u64 s, .int .u64 t] w fun e w' => e = .returned (.bool true) ∧ Below w.heap.size w w' := by
  have HG := Lib.hid (fun b t w h => great1 rk rp rl rn rd rf rx rb b t w h)
  rw [hg] at HG
  have l1 : liveR rd rx t = true := by unfold liveR; rw [if_pos h1, if_neg h2]; exact decide_eq_true h3
  have l2 : liveR rd rx s = true := by unfold liveR; rw [if_pos h1, if_neg h2]; exact decide_eq_true (by omega)
  have c1 : (rd == 3) = true := beq_iff_eq.2 h1
  have c2 : (rd != 3) = false := by rw [h1]; rfl
  have c3 : (rx != 0) = true := bne_iff_ne.2 h2
  have c9 : decide (t < s) = false := decide_eq_false (by omega)
  have g1 := fun w => live_any rk rp rl rn rd rf rx rb t w
  have g2 := fun w => live_any rk rp rl rn rd rf rx rb s w
  rw [l1] at g1
  rw [l2] at g2
  have H0 := Lib.hid fixed_any
  have H1 := Lib.hid g1
  have H2 := Lib.hid g2
  clear l1 l2 g1 g2 h1 h2 h3
  go_enter Try.func4, Try.ntmps4
  go_wp2_with (fail)
  have hA2 := at_new (w.alloc (.cells #[.string rk, .int .u64 rp, .int .u32 rl, .int .u8 rn, .int .u8 rd, .int .u32 rf, .int .u64 rx, .string rb] 27)) #[.string rk, .int .u64 rp, .int .u32 rl, .int .u8 rn, .int .u8 rd, .int .u32 rf, .int .u64 rx, .string rb] 27
  rw [World.size_alloc] at hA2
  refine (HG.out (w.heap.size + 1) _ _ hA2).mono ?_
  rintro e w1 ⟨rfl, b1⟩
  clear hA2
  have HA := Lib.hid (at_below (at_alloc (o := .cells #[.string rk, .int .u64 rp, .int .u32 rl, .int .u8 rn, .int .u8 rd, .int .u32 rf, .int .u64 rx, .string rb] 27) (at_new w #[.string rk, .int .u64 rp, .int .u32 rl, .int .u8 rn, .int .u8 rd, .int .u32 rf, .int .u64 rx, .string rb] 27)) b1)
  have HB := Lib.hid (below_on (below_al (o := .cells #[.string rk, .int .u64 rp, .int .u32 rl, .int .u8 rn, .int .u8 rd, .int .u32 rf, .int .u64 rx, .string rb] 27) (below_al (o := .cells #[.string rk, .int .u64 rp, .int .u32 rl, .int .u8 rn, .int .u8 rd, .int .u32 rf, .int .u64 rx, .string rb] 27) (Below.refl w.heap.size w))) b1)
  clear b1
  go_wp2_with (fail)
  replace HA := Lib.hid (at_drew HA.out)
  replace HB := Lib.hid (Below.drew HB.out)
  refine wp_region_held_drew (S := (fun W => W.cell? ⟨w.heap.size, 0, none⟩ = some (.string rk) ∧ W.cell? ⟨w.heap.size, 1, none⟩ = some (.int .u64 rp) ∧ W.cell? ⟨w.heap.size, 2, none⟩ = some (.int .u32 rl) ∧ W.cell? ⟨w.heap.size, 3, none⟩ = some (.int .u8 rn) ∧ W.cell? ⟨w.heap.size, 4, none⟩ = some (.int .u8 rd) ∧ W.cell? ⟨w.heap.size, 5, none⟩ = some (.int .u32 rf) ∧ W.cell? ⟨w.heap.size, 6, none⟩ = some (.int .u64 rx) ∧ W.cell? ⟨w.heap.size, 7, none⟩ = some (.string rb))) (by kernel_rfl) ?_ (fun hHeld => ?_)
  · (try dsimp only)
    exact ⟨(at8 HA.out).1, (at8 HA.out).2.1, (at8 HA.out).2.2.1, (at8 HA.out).2.2.2.1, (at8 HA.out).2.2.2.2.1, (at8 HA.out).2.2.2.2.2.1, (at8 HA.out).2.2.2.2.2.2.1, (at8 HA.out).2.2.2.2.2.2.2.1⟩
  refine Draw.take_w (i := 0) (v := ?vv38) rfl (by kernel_rfl) (by kernel_rfl) (by kernel_rfl) (fun _ _ _ h => h) (by rfl) ?hy38 (by assumption) ?rest38
  case hy38 => ((intro w hSw); (try dsimp only at hSw); go_simp; (try with_reducible rfl))
  (try simp only [Act.put, List.setIfInBounds_toArray, List.set_cons_zero, List.set_cons_succ])
  refine Draw.take_w (i := 1) (v := ?vv39) rfl (by kernel_rfl) (by kernel_rfl) (by kernel_rfl) (fun _ _ _ h => h) (by rfl) ?hy39 (by assumption) ?rest39
  case hy39 => ((intro w hSw); (try dsimp only at hSw); go_simp; (try with_reducible rfl))
  (try simp only [Act.put, List.setIfInBounds_toArray, List.set_cons_zero, List.set_cons_succ])
  refine Draw.take_w (i := 3) (v := ?vv40) rfl (by kernel_rfl) (by kernel_rfl) (by kernel_rfl) (fun _ _ _ h => h) (by rfl) ?hy40 (by assumption) ?rest40
  case hy40 => ((intro w hSw); (try dsimp only at hSw); go_simp; (try with_reducible rfl))
  (try simp only [Act.put, List.setIfInBounds_toArray, List.set_cons_zero, List.set_cons_succ])
  refine Draw.take_w (i := 4) (v := ?vv41) rfl (by kernel_rfl) (by kernel_rfl) (by kernel_rfl) (fun _ _ _ h => h) (by rfl) ?hy41 (by assumption) ?rest41
  case hy41 => ((intro w hSw); (try dsimp only at hSw); go_simp; (try with_reducible rfl))
  (try simp only [Act.put, List.setIfInBounds_toArray, List.set_cons_zero, List.set_cons_succ])
  refine Draw.call_d (i := 2) rfl (by kernel_rfl) (by rfl) (fun K hK => ?_)
  go_simp
  refine (H1.out _).mono ?_
  rintro e w2 ⟨rfl, b2⟩
  replace HA := Lib.hid (at_below HA.out b2)
  replace HB := Lib.hid (below_on HB.out b2)
  clear b2
  refine hK.out _ _ ?_ (fun hHeld => ?_)
  · (try dsimp only)
    exact ⟨(at8 HA.out).1, (at8 HA.out).2.1, (at8 HA.out).2.2.1, (at8 HA.out).2.2.2.1, (at8 HA.out).2.2.2.2.1, (at8 HA.out).2.2.2.2.2.1, (at8 HA.out).2.2.2.2.2.2.1, (at8 HA.out).2.2.2.2.2.2.2.1⟩
  clear hK K
  (try simp only [Act.put, List.setIfInBounds_toArray, List.set_cons_zero, List.set_cons_succ])
  refine Draw.call_d (i := 5) rfl (by kernel_rfl) (by rfl) (fun K hK => ?_)
  go_simp
  refine (H2.out _).mono ?_
  rintro e w3 ⟨rfl, b2⟩
  replace HA := Lib.hid (at_below HA.out b2)
  replace HB := Lib.hid (below_on HB.out b2)
  clear b2
  refine hK.out _ _ ?_ (fun hHeld => ?_)
  · (try dsimp only)
    exact ⟨(at8 HA.out).1, (at8 HA.out).2.1, (at8 HA.out).2.2.1, (at8 HA.out).2.2.2.1, (at8 HA.out).2.2.2.2.1, (at8 HA.out).2.2.2.2.2.1, (at8 HA.out).2.2.2.2.2.2.1, (at8 HA.out).2.2.2.2.2.2.2.1⟩
  clear hK K
  (try simp only [Act.put, List.setIfInBounds_toArray, List.set_cons_zero, List.set_cons_succ])
  refine Draw.take_w (i := 6) (v := ?vv42) rfl (by kernel_rfl) (by kernel_rfl) (by kernel_rfl) (fun _ _ _ h => h) (by rfl) ?hy42 (by assumption) ?rest42
  case hy42 => ((intro w hSw); (try dsimp only at hSw); go_simp; (try with_reducible rfl))
  (try simp only [Act.put, List.setIfInBounds_toArray, List.set_cons_zero, List.set_cons_succ])
  refine Draw.take_w (i := 7) (v := ?vv43) rfl (by kernel_rfl) (by kernel_rfl) (by kernel_rfl) (fun _ _ _ h => h) (by rfl) ?hy43 (by assumption) ?rest43
  case hy43 => ((intro w hSw); (try dsimp only at hSw); go_simp; (try with_reducible rfl))
  (try simp only [Act.put, List.setIfInBounds_toArray, List.set_cons_zero, List.set_cons_succ])
  refine wpAnyH_done (by kernel_rfl) ?_ _
  obtain ⟨x0, x1, x2, x3, x4, x5, x6, x7, -⟩ := at8 HA.out
  go_wp2_with (fail)
  clear x0 x1 x2 x3 x4 x5 x6 x7
  refine (H0.out _).mono ?_
  rintro e w4 ⟨rfl, b2⟩
  replace HA := Lib.hid (at_below HA.out b2)
  replace HB := Lib.hid (below_on HB.out b2)
  clear b2
  obtain ⟨x0, x1, x2, x3, x4, x5, x6, x7, -⟩ := at8 HA.out
  go_wp2_with (fail)
  go_ret
  exact ⟨rfl, HB.out⟩
set_option maxRecDepth 100000 in
set_option maxHeartbeats 1600000 in
theorem over_d0 (rk : ByteArray) (rp rl rn rd rf rx : Int) (rb : ByteArray) (s t : Int) (w : World) (hg : gr rk rb = false) (hst : s ≤ t) (h1 : rd = 3) (h2 : ¬ rx = 0) (h3 : ¬ t < rx) : Calls Try.prog 4 #[.agg #[.string rk, .int .u64 rp, .int .u32 rl, .int .u8 rn, .int .u8 rd, .int .u32 rf, .int .u64 rx, .string rb], .int .u64 s, .int .u64 t] w fun e w' => e = .returned (.bool true) ∧ Below w.heap.size w w' := by
  have HG := Lib.hid (fun b t w h => great1 rk rp rl rn rd rf rx rb b t w h)
  rw [hg] at HG
  have l1 : liveR rd rx t = false := by unfold liveR; rw [if_pos h1, if_neg h2]; exact decide_eq_false h3
  have l2 : liveR rd rx s = liveR rd rx s := rfl
  have c1 : (rd == 3) = true := beq_iff_eq.2 h1
  have c2 : (rd != 3) = false := by rw [h1]; rfl
  have c3 : (rx != 0) = true := bne_iff_ne.2 h2
  have c9 : decide (t < s) = false := decide_eq_false (by omega)
  have g1 := fun w => live_any rk rp rl rn rd rf rx rb t w
  have g2 := fun w => live_any rk rp rl rn rd rf rx rb s w
  rw [l1] at g1
  rw [l2] at g2
  generalize liveR rd rx s = lb at *
  have H0 := Lib.hid fixed_any
  have H1 := Lib.hid g1
  have H2 := Lib.hid g2
  clear l1 l2 g1 g2 h1 h2 h3
  go_enter Try.func4, Try.ntmps4
  go_wp2_with (fail)
  have hA2 := at_new (w.alloc (.cells #[.string rk, .int .u64 rp, .int .u32 rl, .int .u8 rn, .int .u8 rd, .int .u32 rf, .int .u64 rx, .string rb] 27)) #[.string rk, .int .u64 rp, .int .u32 rl, .int .u8 rn, .int .u8 rd, .int .u32 rf, .int .u64 rx, .string rb] 27
  rw [World.size_alloc] at hA2
  refine (HG.out (w.heap.size + 1) _ _ hA2).mono ?_
  rintro e w1 ⟨rfl, b1⟩
  clear hA2
  have HA := Lib.hid (at_below (at_alloc (o := .cells #[.string rk, .int .u64 rp, .int .u32 rl, .int .u8 rn, .int .u8 rd, .int .u32 rf, .int .u64 rx, .string rb] 27) (at_new w #[.string rk, .int .u64 rp, .int .u32 rl, .int .u8 rn, .int .u8 rd, .int .u32 rf, .int .u64 rx, .string rb] 27)) b1)
  have HB := Lib.hid (below_on (below_al (o := .cells #[.string rk, .int .u64 rp, .int .u32 rl, .int .u8 rn, .int .u8 rd, .int .u32 rf, .int .u64 rx, .string rb] 27) (below_al (o := .cells #[.string rk, .int .u64 rp, .int .u32 rl, .int .u8 rn, .int .u8 rd, .int .u32 rf, .int .u64 rx, .string rb] 27) (Below.refl w.heap.size w))) b1)
  clear b1
  go_wp2_with (fail)
  replace HA := Lib.hid (at_drew HA.out)
  replace HB := Lib.hid (Below.drew HB.out)
  refine wp_region_held_drew (S := (fun W => W.cell? ⟨w.heap.size, 0, none⟩ = some (.string rk) ∧ W.cell? ⟨w.heap.size, 1, none⟩ = some (.int .u64 rp) ∧ W.cell? ⟨w.heap.size, 2, none⟩ = some (.int .u32 rl) ∧ W.cell? ⟨w.heap.size, 3, none⟩ = some (.int .u8 rn) ∧ W.cell? ⟨w.heap.size, 4, none⟩ = some (.int .u8 rd) ∧ W.cell? ⟨w.heap.size, 5, none⟩ = some (.int .u32 rf) ∧ W.cell? ⟨w.heap.size, 6, none⟩ = some (.int .u64 rx) ∧ W.cell? ⟨w.heap.size, 7, none⟩ = some (.string rb))) (by kernel_rfl) ?_ (fun hHeld => ?_)
  · (try dsimp only)
    exact ⟨(at8 HA.out).1, (at8 HA.out).2.1, (at8 HA.out).2.2.1, (at8 HA.out).2.2.2.1, (at8 HA.out).2.2.2.2.1, (at8 HA.out).2.2.2.2.2.1, (at8 HA.out).2.2.2.2.2.2.1, (at8 HA.out).2.2.2.2.2.2.2.1⟩
  refine Draw.take_w (i := 0) (v := ?vv44) rfl (by kernel_rfl) (by kernel_rfl) (by kernel_rfl) (fun _ _ _ h => h) (by rfl) ?hy44 (by assumption) ?rest44
  case hy44 => ((intro w hSw); (try dsimp only at hSw); go_simp; (try with_reducible rfl))
  (try simp only [Act.put, List.setIfInBounds_toArray, List.set_cons_zero, List.set_cons_succ])
  refine Draw.take_w (i := 1) (v := ?vv45) rfl (by kernel_rfl) (by kernel_rfl) (by kernel_rfl) (fun _ _ _ h => h) (by rfl) ?hy45 (by assumption) ?rest45
  case hy45 => ((intro w hSw); (try dsimp only at hSw); go_simp; (try with_reducible rfl))
  (try simp only [Act.put, List.setIfInBounds_toArray, List.set_cons_zero, List.set_cons_succ])
  refine Draw.take_w (i := 3) (v := ?vv46) rfl (by kernel_rfl) (by kernel_rfl) (by kernel_rfl) (fun _ _ _ h => h) (by rfl) ?hy46 (by assumption) ?rest46
  case hy46 => ((intro w hSw); (try dsimp only at hSw); go_simp; (try with_reducible rfl))
  (try simp only [Act.put, List.setIfInBounds_toArray, List.set_cons_zero, List.set_cons_succ])
  refine Draw.take_w (i := 4) (v := ?vv47) rfl (by kernel_rfl) (by kernel_rfl) (by kernel_rfl) (fun _ _ _ h => h) (by rfl) ?hy47 (by assumption) ?rest47
  case hy47 => ((intro w hSw); (try dsimp only at hSw); go_simp; (try with_reducible rfl))
  (try simp only [Act.put, List.setIfInBounds_toArray, List.set_cons_zero, List.set_cons_succ])
  refine Draw.call_d (i := 2) rfl (by kernel_rfl) (by rfl) (fun K hK => ?_)
  go_simp
  refine (H1.out _).mono ?_
  rintro e w2 ⟨rfl, b2⟩
  replace HA := Lib.hid (at_below HA.out b2)
  replace HB := Lib.hid (below_on HB.out b2)
  clear b2
  refine hK.out _ _ ?_ (fun hHeld => ?_)
  · (try dsimp only)
    exact ⟨(at8 HA.out).1, (at8 HA.out).2.1, (at8 HA.out).2.2.1, (at8 HA.out).2.2.2.1, (at8 HA.out).2.2.2.2.1, (at8 HA.out).2.2.2.2.2.1, (at8 HA.out).2.2.2.2.2.2.1, (at8 HA.out).2.2.2.2.2.2.2.1⟩
  clear hK K
  (try simp only [Act.put, List.setIfInBounds_toArray, List.set_cons_zero, List.set_cons_succ])
  refine Draw.call_d (i := 5) rfl (by kernel_rfl) (by rfl) (fun K hK => ?_)
  go_simp
  refine (H2.out _).mono ?_
  rintro e w3 ⟨rfl, b2⟩
  replace HA := Lib.hid (at_below HA.out b2)
  replace HB := Lib.hid (below_on HB.out b2)
  clear b2
  refine hK.out _ _ ?_ (fun hHeld => ?_)
  · (try dsimp only)
    exact ⟨(at8 HA.out).1, (at8 HA.out).2.1, (at8 HA.out).2.2.1, (at8 HA.out).2.2.2.1, (at8 HA.out).2.2.2.2.1, (at8 HA.out).2.2.2.2.2.1, (at8 HA.out).2.2.2.2.2.2.1, (at8 HA.out).2.2.2.2.2.2.2.1⟩
  clear hK K
  (try simp only [Act.put, List.setIfInBounds_toArray, List.set_cons_zero, List.set_cons_succ])
  refine Draw.take_w (i := 6) (v := ?vv48) rfl (by kernel_rfl) (by kernel_rfl) (by kernel_rfl) (fun _ _ _ h => h) (by rfl) ?hy48 (by assumption) ?rest48
  case hy48 => ((intro w hSw); (try dsimp only at hSw); go_simp; (try with_reducible rfl))
  (try simp only [Act.put, List.setIfInBounds_toArray, List.set_cons_zero, List.set_cons_succ])
  refine Draw.take_w (i := 7) (v := ?vv49) rfl (by kernel_rfl) (by kernel_rfl) (by kernel_rfl) (fun _ _ _ h => h) (by rfl) ?hy49 (by assumption) ?rest49
  case hy49 => ((intro w hSw); (try dsimp only at hSw); go_simp; (try with_reducible rfl))
  (try simp only [Act.put, List.setIfInBounds_toArray, List.set_cons_zero, List.set_cons_succ])
  refine wpAnyH_done (by kernel_rfl) ?_ _
  obtain ⟨x0, x1, x2, x3, x4, x5, x6, x7, -⟩ := at8 HA.out
  go_wp2_with (fail)
  clear x0 x1 x2 x3 x4 x5 x6 x7
  refine (H0.out _).mono ?_
  rintro e w4 ⟨rfl, b2⟩
  replace HA := Lib.hid (at_below HA.out b2)
  replace HB := Lib.hid (below_on HB.out b2)
  clear b2
  obtain ⟨x0, x1, x2, x3, x4, x5, x6, x7, -⟩ := at8 HA.out
  go_wp2_with (fail)
  go_ret
  exact ⟨rfl, HB.out⟩
set_option maxRecDepth 100000 in
set_option maxHeartbeats 1600000 in
theorem over_a1 (rk : ByteArray) (rp rl rn rd rf rx : Int) (rb : ByteArray) (s t : Int) (w : World) (hg : gr rk rb = false) (hst : t < s) (h1 : ¬ rd = 3) : Calls Try.prog 4 #[.agg #[.string rk, .int .u64 rp, .int .u32 rl, .int .u8 rn, .int .u8 rd, .int .u32 rf, .int .u64 rx, .string rb], .int .u64 s, .int .u64 t] w fun e w' => e = .returned (.bool true) ∧ Below w.heap.size w w' := by
  have HG := Lib.hid (fun b t w h => great1 rk rp rl rn rd rf rx rb b t w h)
  rw [hg] at HG
  have l1 : liveR rd rx s = false := if_neg h1
  have l2 : liveR rd rx t = false := if_neg h1
  have c1 : (rd == 3) = false := beq_eq_false_iff_ne.2 h1
  have c2 : (rd != 3) = true := bne_iff_ne.2 h1
  have c9 : decide (t < s) = true := decide_eq_true (by omega)
  have g1 := fun w => live_any rk rp rl rn rd rf rx rb s w
  have g2 := fun w => live_any rk rp rl rn rd rf rx rb t w
  rw [l1] at g1
  rw [l2] at g2
  have H0 := Lib.hid fixed_any
  have H1 := Lib.hid g1
  have H2 := Lib.hid g2
  clear l1 l2 g1 g2 h1
  go_enter Try.func4, Try.ntmps4
  go_wp2_with (fail)
  have hA2 := at_new (w.alloc (.cells #[.string rk, .int .u64 rp, .int .u32 rl, .int .u8 rn, .int .u8 rd, .int .u32 rf, .int .u64 rx, .string rb] 27)) #[.string rk, .int .u64 rp, .int .u32 rl, .int .u8 rn, .int .u8 rd, .int .u32 rf, .int .u64 rx, .string rb] 27
  rw [World.size_alloc] at hA2
  refine (HG.out (w.heap.size + 1) _ _ hA2).mono ?_
  rintro e w1 ⟨rfl, b1⟩
  clear hA2
  have HA := Lib.hid (at_below (at_alloc (o := .cells #[.string rk, .int .u64 rp, .int .u32 rl, .int .u8 rn, .int .u8 rd, .int .u32 rf, .int .u64 rx, .string rb] 27) (at_new w #[.string rk, .int .u64 rp, .int .u32 rl, .int .u8 rn, .int .u8 rd, .int .u32 rf, .int .u64 rx, .string rb] 27)) b1)
  have HB := Lib.hid (below_on (below_al (o := .cells #[.string rk, .int .u64 rp, .int .u32 rl, .int .u8 rn, .int .u8 rd, .int .u32 rf, .int .u64 rx, .string rb] 27) (below_al (o := .cells #[.string rk, .int .u64 rp, .int .u32 rl, .int .u8 rn, .int .u8 rd, .int .u32 rf, .int .u64 rx, .string rb] 27) (Below.refl w.heap.size w))) b1)
  clear b1
  go_wp2_with (fail)
  replace HA := Lib.hid (at_drew HA.out)
  replace HB := Lib.hid (Below.drew HB.out)
  refine wp_region_held_drew (S := (fun W => W.cell? ⟨w.heap.size, 0, none⟩ = some (.string rk) ∧ W.cell? ⟨w.heap.size, 1, none⟩ = some (.int .u64 rp) ∧ W.cell? ⟨w.heap.size, 2, none⟩ = some (.int .u32 rl) ∧ W.cell? ⟨w.heap.size, 3, none⟩ = some (.int .u8 rn) ∧ W.cell? ⟨w.heap.size, 4, none⟩ = some (.int .u8 rd) ∧ W.cell? ⟨w.heap.size, 5, none⟩ = some (.int .u32 rf) ∧ W.cell? ⟨w.heap.size, 6, none⟩ = some (.int .u64 rx) ∧ W.cell? ⟨w.heap.size, 7, none⟩ = some (.string rb))) (by kernel_rfl) ?_ (fun hHeld => ?_)
  · (try dsimp only)
    exact ⟨(at8 HA.out).1, (at8 HA.out).2.1, (at8 HA.out).2.2.1, (at8 HA.out).2.2.2.1, (at8 HA.out).2.2.2.2.1, (at8 HA.out).2.2.2.2.2.1, (at8 HA.out).2.2.2.2.2.2.1, (at8 HA.out).2.2.2.2.2.2.2.1⟩
  refine Draw.take_w (i := 0) (v := ?vv50) rfl (by kernel_rfl) (by kernel_rfl) (by kernel_rfl) (fun _ _ _ h => h) (by rfl) ?hy50 (by assumption) ?rest50
  case hy50 => ((intro w hSw); (try dsimp only at hSw); go_simp; (try with_reducible rfl))
  (try simp only [Act.put, List.setIfInBounds_toArray, List.set_cons_zero, List.set_cons_succ])
  refine Draw.take_w (i := 1) (v := ?vv51) rfl (by kernel_rfl) (by kernel_rfl) (by kernel_rfl) (fun _ _ _ h => h) (by rfl) ?hy51 (by assumption) ?rest51
  case hy51 => ((intro w hSw); (try dsimp only at hSw); go_simp; (try with_reducible rfl))
  (try simp only [Act.put, List.setIfInBounds_toArray, List.set_cons_zero, List.set_cons_succ])
  refine Draw.take_w (i := 3) (v := ?vv52) rfl (by kernel_rfl) (by kernel_rfl) (by kernel_rfl) (fun _ _ _ h => h) (by rfl) ?hy52 (by assumption) ?rest52
  case hy52 => ((intro w hSw); (try dsimp only at hSw); go_simp; (try with_reducible rfl))
  (try simp only [Act.put, List.setIfInBounds_toArray, List.set_cons_zero, List.set_cons_succ])
  refine Draw.take_w (i := 4) (v := ?vv53) rfl (by kernel_rfl) (by kernel_rfl) (by kernel_rfl) (fun _ _ _ h => h) (by rfl) ?hy53 (by assumption) ?rest53
  case hy53 => ((intro w hSw); (try dsimp only at hSw); go_simp; (try with_reducible rfl))
  (try simp only [Act.put, List.setIfInBounds_toArray, List.set_cons_zero, List.set_cons_succ])
  refine Draw.call_d (i := 2) rfl (by kernel_rfl) (by rfl) (fun K hK => ?_)
  go_simp
  refine (H1.out _).mono ?_
  rintro e w2 ⟨rfl, b2⟩
  replace HA := Lib.hid (at_below HA.out b2)
  replace HB := Lib.hid (below_on HB.out b2)
  clear b2
  refine hK.out _ _ ?_ (fun hHeld => ?_)
  · (try dsimp only)
    exact ⟨(at8 HA.out).1, (at8 HA.out).2.1, (at8 HA.out).2.2.1, (at8 HA.out).2.2.2.1, (at8 HA.out).2.2.2.2.1, (at8 HA.out).2.2.2.2.2.1, (at8 HA.out).2.2.2.2.2.2.1, (at8 HA.out).2.2.2.2.2.2.2.1⟩
  clear hK K
  (try simp only [Act.put, List.setIfInBounds_toArray, List.set_cons_zero, List.set_cons_succ])
  refine Draw.call_d (i := 5) rfl (by kernel_rfl) (by rfl) (fun K hK => ?_)
  go_simp
  refine (H2.out _).mono ?_
  rintro e w3 ⟨rfl, b2⟩
  replace HA := Lib.hid (at_below HA.out b2)
  replace HB := Lib.hid (below_on HB.out b2)
  clear b2
  refine hK.out _ _ ?_ (fun hHeld => ?_)
  · (try dsimp only)
    exact ⟨(at8 HA.out).1, (at8 HA.out).2.1, (at8 HA.out).2.2.1, (at8 HA.out).2.2.2.1, (at8 HA.out).2.2.2.2.1, (at8 HA.out).2.2.2.2.2.1, (at8 HA.out).2.2.2.2.2.2.1, (at8 HA.out).2.2.2.2.2.2.2.1⟩
  clear hK K
  (try simp only [Act.put, List.setIfInBounds_toArray, List.set_cons_zero, List.set_cons_succ])
  refine Draw.take_w (i := 6) (v := ?vv54) rfl (by kernel_rfl) (by kernel_rfl) (by kernel_rfl) (fun _ _ _ h => h) (by rfl) ?hy54 (by assumption) ?rest54
  case hy54 => ((intro w hSw); (try dsimp only at hSw); go_simp; (try with_reducible rfl))
  (try simp only [Act.put, List.setIfInBounds_toArray, List.set_cons_zero, List.set_cons_succ])
  refine Draw.take_w (i := 7) (v := ?vv55) rfl (by kernel_rfl) (by kernel_rfl) (by kernel_rfl) (fun _ _ _ h => h) (by rfl) ?hy55 (by assumption) ?rest55
  case hy55 => ((intro w hSw); (try dsimp only at hSw); go_simp; (try with_reducible rfl))
  (try simp only [Act.put, List.setIfInBounds_toArray, List.set_cons_zero, List.set_cons_succ])
  refine wpAnyH_done (by kernel_rfl) ?_ _
  obtain ⟨x0, x1, x2, x3, x4, x5, x6, x7, -⟩ := at8 HA.out
  go_wp2_with (fail)
  clear x0 x1 x2 x3 x4 x5 x6 x7
  refine (H0.out _).mono ?_
  rintro e w4 ⟨rfl, b2⟩
  replace HA := Lib.hid (at_below HA.out b2)
  replace HB := Lib.hid (below_on HB.out b2)
  clear b2
  obtain ⟨x0, x1, x2, x3, x4, x5, x6, x7, -⟩ := at8 HA.out
  go_wp2_with (fail)
  go_ret
  exact ⟨rfl, HB.out⟩
set_option maxRecDepth 100000 in
set_option maxHeartbeats 1600000 in
theorem over_b1 (rk : ByteArray) (rp rl rn rd rf rx : Int) (rb : ByteArray) (s t : Int) (w : World) (hg : gr rk rb = false) (hst : t < s) (h1 : rd = 3) (h2 : rx = 0) : Calls Try.prog 4 #[.agg #[.string rk, .int .u64 rp, .int .u32 rl, .int .u8 rn, .int .u8 rd, .int .u32 rf, .int .u64 rx, .string rb], .int .u64 s, .int .u64 t] w fun e w' => e = .returned (.bool true) ∧ Below w.heap.size w w' := by
  have HG := Lib.hid (fun b t w h => great1 rk rp rl rn rd rf rx rb b t w h)
  rw [hg] at HG
  have l1 : liveR rd rx s = true := by unfold liveR; rw [if_pos h1, if_pos h2]
  have l2 : liveR rd rx t = true := by unfold liveR; rw [if_pos h1, if_pos h2]
  have c1 : (rd == 3) = true := beq_iff_eq.2 h1
  have c2 : (rd != 3) = false := by rw [h1]; rfl
  have c3 : (rx != 0) = false := by rw [h2]; rfl
  have c9 : decide (t < s) = true := decide_eq_true (by omega)
  have g1 := fun w => live_any rk rp rl rn rd rf rx rb s w
  have g2 := fun w => live_any rk rp rl rn rd rf rx rb t w
  rw [l1] at g1
  rw [l2] at g2
  have H0 := Lib.hid fixed_any
  have H1 := Lib.hid g1
  have H2 := Lib.hid g2
  clear l1 l2 g1 g2 h1 h2
  go_enter Try.func4, Try.ntmps4
  go_wp2_with (fail)
  have hA2 := at_new (w.alloc (.cells #[.string rk, .int .u64 rp, .int .u32 rl, .int .u8 rn, .int .u8 rd, .int .u32 rf, .int .u64 rx, .string rb] 27)) #[.string rk, .int .u64 rp, .int .u32 rl, .int .u8 rn, .int .u8 rd, .int .u32 rf, .int .u64 rx, .string rb] 27
  rw [World.size_alloc] at hA2
  refine (HG.out (w.heap.size + 1) _ _ hA2).mono ?_
  rintro e w1 ⟨rfl, b1⟩
  clear hA2
  have HA := Lib.hid (at_below (at_alloc (o := .cells #[.string rk, .int .u64 rp, .int .u32 rl, .int .u8 rn, .int .u8 rd, .int .u32 rf, .int .u64 rx, .string rb] 27) (at_new w #[.string rk, .int .u64 rp, .int .u32 rl, .int .u8 rn, .int .u8 rd, .int .u32 rf, .int .u64 rx, .string rb] 27)) b1)
  have HB := Lib.hid (below_on (below_al (o := .cells #[.string rk, .int .u64 rp, .int .u32 rl, .int .u8 rn, .int .u8 rd, .int .u32 rf, .int .u64 rx, .string rb] 27) (below_al (o := .cells #[.string rk, .int .u64 rp, .int .u32 rl, .int .u8 rn, .int .u8 rd, .int .u32 rf, .int .u64 rx, .string rb] 27) (Below.refl w.heap.size w))) b1)
  clear b1
  go_wp2_with (fail)
  replace HA := Lib.hid (at_drew HA.out)
  replace HB := Lib.hid (Below.drew HB.out)
  refine wp_region_held_drew (S := (fun W => W.cell? ⟨w.heap.size, 0, none⟩ = some (.string rk) ∧ W.cell? ⟨w.heap.size, 1, none⟩ = some (.int .u64 rp) ∧ W.cell? ⟨w.heap.size, 2, none⟩ = some (.int .u32 rl) ∧ W.cell? ⟨w.heap.size, 3, none⟩ = some (.int .u8 rn) ∧ W.cell? ⟨w.heap.size, 4, none⟩ = some (.int .u8 rd) ∧ W.cell? ⟨w.heap.size, 5, none⟩ = some (.int .u32 rf) ∧ W.cell? ⟨w.heap.size, 6, none⟩ = some (.int .u64 rx) ∧ W.cell? ⟨w.heap.size, 7, none⟩ = some (.string rb))) (by kernel_rfl) ?_ (fun hHeld => ?_)
  · (try dsimp only)
    exact ⟨(at8 HA.out).1, (at8 HA.out).2.1, (at8 HA.out).2.2.1, (at8 HA.out).2.2.2.1, (at8 HA.out).2.2.2.2.1, (at8 HA.out).2.2.2.2.2.1, (at8 HA.out).2.2.2.2.2.2.1, (at8 HA.out).2.2.2.2.2.2.2.1⟩
  refine Draw.take_w (i := 0) (v := ?vv56) rfl (by kernel_rfl) (by kernel_rfl) (by kernel_rfl) (fun _ _ _ h => h) (by rfl) ?hy56 (by assumption) ?rest56
  case hy56 => ((intro w hSw); (try dsimp only at hSw); go_simp; (try with_reducible rfl))
  (try simp only [Act.put, List.setIfInBounds_toArray, List.set_cons_zero, List.set_cons_succ])
  refine Draw.take_w (i := 1) (v := ?vv57) rfl (by kernel_rfl) (by kernel_rfl) (by kernel_rfl) (fun _ _ _ h => h) (by rfl) ?hy57 (by assumption) ?rest57
  case hy57 => ((intro w hSw); (try dsimp only at hSw); go_simp; (try with_reducible rfl))
  (try simp only [Act.put, List.setIfInBounds_toArray, List.set_cons_zero, List.set_cons_succ])
  refine Draw.take_w (i := 3) (v := ?vv58) rfl (by kernel_rfl) (by kernel_rfl) (by kernel_rfl) (fun _ _ _ h => h) (by rfl) ?hy58 (by assumption) ?rest58
  case hy58 => ((intro w hSw); (try dsimp only at hSw); go_simp; (try with_reducible rfl))
  (try simp only [Act.put, List.setIfInBounds_toArray, List.set_cons_zero, List.set_cons_succ])
  refine Draw.take_w (i := 4) (v := ?vv59) rfl (by kernel_rfl) (by kernel_rfl) (by kernel_rfl) (fun _ _ _ h => h) (by rfl) ?hy59 (by assumption) ?rest59
  case hy59 => ((intro w hSw); (try dsimp only at hSw); go_simp; (try with_reducible rfl))
  (try simp only [Act.put, List.setIfInBounds_toArray, List.set_cons_zero, List.set_cons_succ])
  refine Draw.call_d (i := 2) rfl (by kernel_rfl) (by rfl) (fun K hK => ?_)
  go_simp
  refine (H1.out _).mono ?_
  rintro e w2 ⟨rfl, b2⟩
  replace HA := Lib.hid (at_below HA.out b2)
  replace HB := Lib.hid (below_on HB.out b2)
  clear b2
  refine hK.out _ _ ?_ (fun hHeld => ?_)
  · (try dsimp only)
    exact ⟨(at8 HA.out).1, (at8 HA.out).2.1, (at8 HA.out).2.2.1, (at8 HA.out).2.2.2.1, (at8 HA.out).2.2.2.2.1, (at8 HA.out).2.2.2.2.2.1, (at8 HA.out).2.2.2.2.2.2.1, (at8 HA.out).2.2.2.2.2.2.2.1⟩
  clear hK K
  (try simp only [Act.put, List.setIfInBounds_toArray, List.set_cons_zero, List.set_cons_succ])
  refine Draw.call_d (i := 5) rfl (by kernel_rfl) (by rfl) (fun K hK => ?_)
  go_simp
  refine (H2.out _).mono ?_
  rintro e w3 ⟨rfl, b2⟩
  replace HA := Lib.hid (at_below HA.out b2)
  replace HB := Lib.hid (below_on HB.out b2)
  clear b2
  refine hK.out _ _ ?_ (fun hHeld => ?_)
  · (try dsimp only)
    exact ⟨(at8 HA.out).1, (at8 HA.out).2.1, (at8 HA.out).2.2.1, (at8 HA.out).2.2.2.1, (at8 HA.out).2.2.2.2.1, (at8 HA.out).2.2.2.2.2.1, (at8 HA.out).2.2.2.2.2.2.1, (at8 HA.out).2.2.2.2.2.2.2.1⟩
  clear hK K
  (try simp only [Act.put, List.setIfInBounds_toArray, List.set_cons_zero, List.set_cons_succ])
  refine Draw.take_w (i := 6) (v := ?vv60) rfl (by kernel_rfl) (by kernel_rfl) (by kernel_rfl) (fun _ _ _ h => h) (by rfl) ?hy60 (by assumption) ?rest60
  case hy60 => ((intro w hSw); (try dsimp only at hSw); go_simp; (try with_reducible rfl))
  (try simp only [Act.put, List.setIfInBounds_toArray, List.set_cons_zero, List.set_cons_succ])
  refine Draw.take_w (i := 7) (v := ?vv61) rfl (by kernel_rfl) (by kernel_rfl) (by kernel_rfl) (fun _ _ _ h => h) (by rfl) ?hy61 (by assumption) ?rest61
  case hy61 => ((intro w hSw); (try dsimp only at hSw); go_simp; (try with_reducible rfl))
  (try simp only [Act.put, List.setIfInBounds_toArray, List.set_cons_zero, List.set_cons_succ])
  refine wpAnyH_done (by kernel_rfl) ?_ _
  obtain ⟨x0, x1, x2, x3, x4, x5, x6, x7, -⟩ := at8 HA.out
  go_wp2_with (fail)
  clear x0 x1 x2 x3 x4 x5 x6 x7
  refine (H0.out _).mono ?_
  rintro e w4 ⟨rfl, b2⟩
  replace HA := Lib.hid (at_below HA.out b2)
  replace HB := Lib.hid (below_on HB.out b2)
  clear b2
  obtain ⟨x0, x1, x2, x3, x4, x5, x6, x7, -⟩ := at8 HA.out
  go_wp2_with (fail)
  go_ret
  exact ⟨rfl, HB.out⟩
set_option maxRecDepth 100000 in
set_option maxHeartbeats 1600000 in
theorem over_c1 (rk : ByteArray) (rp rl rn rd rf rx : Int) (rb : ByteArray) (s t : Int) (w : World) (hg : gr rk rb = false) (hst : t < s) (h1 : rd = 3) (h2 : ¬ rx = 0) (h3 : s < rx) : Calls Try.prog 4 #[.agg #[.string rk, .int .u64 rp, .int .u32 rl, .int .u8 rn, .int .u8 rd, .int .u32 rf, .int .u64 rx, .string rb], .int .u64 s, .int .u64 t] w fun e w' => e = .returned (.bool true) ∧ Below w.heap.size w w' := by
  have HG := Lib.hid (fun b t w h => great1 rk rp rl rn rd rf rx rb b t w h)
  rw [hg] at HG
  have l1 : liveR rd rx s = true := by unfold liveR; rw [if_pos h1, if_neg h2]; exact decide_eq_true h3
  have l2 : liveR rd rx t = true := by unfold liveR; rw [if_pos h1, if_neg h2]; exact decide_eq_true (by omega)
  have c1 : (rd == 3) = true := beq_iff_eq.2 h1
  have c2 : (rd != 3) = false := by rw [h1]; rfl
  have c3 : (rx != 0) = true := bne_iff_ne.2 h2
  have c9 : decide (t < s) = true := decide_eq_true (by omega)
  have g1 := fun w => live_any rk rp rl rn rd rf rx rb s w
  have g2 := fun w => live_any rk rp rl rn rd rf rx rb t w
  rw [l1] at g1
  rw [l2] at g2
  have H0 := Lib.hid fixed_any
  have H1 := Lib.hid g1
  have H2 := Lib.hid g2
  clear l1 l2 g1 g2 h1 h2 h3
  go_enter Try.func4, Try.ntmps4
  go_wp2_with (fail)
  have hA2 := at_new (w.alloc (.cells #[.string rk, .int .u64 rp, .int .u32 rl, .int .u8 rn, .int .u8 rd, .int .u32 rf, .int .u64 rx, .string rb] 27)) #[.string rk, .int .u64 rp, .int .u32 rl, .int .u8 rn, .int .u8 rd, .int .u32 rf, .int .u64 rx, .string rb] 27
  rw [World.size_alloc] at hA2
  refine (HG.out (w.heap.size + 1) _ _ hA2).mono ?_
  rintro e w1 ⟨rfl, b1⟩
  clear hA2
  have HA := Lib.hid (at_below (at_alloc (o := .cells #[.string rk, .int .u64 rp, .int .u32 rl, .int .u8 rn, .int .u8 rd, .int .u32 rf, .int .u64 rx, .string rb] 27) (at_new w #[.string rk, .int .u64 rp, .int .u32 rl, .int .u8 rn, .int .u8 rd, .int .u32 rf, .int .u64 rx, .string rb] 27)) b1)
  have HB := Lib.hid (below_on (below_al (o := .cells #[.string rk, .int .u64 rp, .int .u32 rl, .int .u8 rn, .int .u8 rd, .int .u32 rf, .int .u64 rx, .string rb] 27) (below_al (o := .cells #[.string rk, .int .u64 rp, .int .u32 rl, .int .u8 rn, .int .u8 rd, .int .u32 rf, .int .u64 rx, .string rb] 27) (Below.refl w.heap.size w))) b1)
  clear b1
  go_wp2_with (fail)
  replace HA := Lib.hid (at_drew HA.out)
  replace HB := Lib.hid (Below.drew HB.out)
  refine wp_region_held_drew (S := (fun W => W.cell? ⟨w.heap.size, 0, none⟩ = some (.string rk) ∧ W.cell? ⟨w.heap.size, 1, none⟩ = some (.int .u64 rp) ∧ W.cell? ⟨w.heap.size, 2, none⟩ = some (.int .u32 rl) ∧ W.cell? ⟨w.heap.size, 3, none⟩ = some (.int .u8 rn) ∧ W.cell? ⟨w.heap.size, 4, none⟩ = some (.int .u8 rd) ∧ W.cell? ⟨w.heap.size, 5, none⟩ = some (.int .u32 rf) ∧ W.cell? ⟨w.heap.size, 6, none⟩ = some (.int .u64 rx) ∧ W.cell? ⟨w.heap.size, 7, none⟩ = some (.string rb))) (by kernel_rfl) ?_ (fun hHeld => ?_)
  · (try dsimp only)
    exact ⟨(at8 HA.out).1, (at8 HA.out).2.1, (at8 HA.out).2.2.1, (at8 HA.out).2.2.2.1, (at8 HA.out).2.2.2.2.1, (at8 HA.out).2.2.2.2.2.1, (at8 HA.out).2.2.2.2.2.2.1, (at8 HA.out).2.2.2.2.2.2.2.1⟩
  refine Draw.take_w (i := 0) (v := ?vv62) rfl (by kernel_rfl) (by kernel_rfl) (by kernel_rfl) (fun _ _ _ h => h) (by rfl) ?hy62 (by assumption) ?rest62
  case hy62 => ((intro w hSw); (try dsimp only at hSw); go_simp; (try with_reducible rfl))
  (try simp only [Act.put, List.setIfInBounds_toArray, List.set_cons_zero, List.set_cons_succ])
  refine Draw.take_w (i := 1) (v := ?vv63) rfl (by kernel_rfl) (by kernel_rfl) (by kernel_rfl) (fun _ _ _ h => h) (by rfl) ?hy63 (by assumption) ?rest63
  case hy63 => ((intro w hSw); (try dsimp only at hSw); go_simp; (try with_reducible rfl))
  (try simp only [Act.put, List.setIfInBounds_toArray, List.set_cons_zero, List.set_cons_succ])
  refine Draw.take_w (i := 3) (v := ?vv64) rfl (by kernel_rfl) (by kernel_rfl) (by kernel_rfl) (fun _ _ _ h => h) (by rfl) ?hy64 (by assumption) ?rest64
  case hy64 => ((intro w hSw); (try dsimp only at hSw); go_simp; (try with_reducible rfl))
  (try simp only [Act.put, List.setIfInBounds_toArray, List.set_cons_zero, List.set_cons_succ])
  refine Draw.take_w (i := 4) (v := ?vv65) rfl (by kernel_rfl) (by kernel_rfl) (by kernel_rfl) (fun _ _ _ h => h) (by rfl) ?hy65 (by assumption) ?rest65
  case hy65 => ((intro w hSw); (try dsimp only at hSw); go_simp; (try with_reducible rfl))
  (try simp only [Act.put, List.setIfInBounds_toArray, List.set_cons_zero, List.set_cons_succ])
  refine Draw.call_d (i := 2) rfl (by kernel_rfl) (by rfl) (fun K hK => ?_)
  go_simp
  refine (H1.out _).mono ?_
  rintro e w2 ⟨rfl, b2⟩
  replace HA := Lib.hid (at_below HA.out b2)
  replace HB := Lib.hid (below_on HB.out b2)
  clear b2
  refine hK.out _ _ ?_ (fun hHeld => ?_)
  · (try dsimp only)
    exact ⟨(at8 HA.out).1, (at8 HA.out).2.1, (at8 HA.out).2.2.1, (at8 HA.out).2.2.2.1, (at8 HA.out).2.2.2.2.1, (at8 HA.out).2.2.2.2.2.1, (at8 HA.out).2.2.2.2.2.2.1, (at8 HA.out).2.2.2.2.2.2.2.1⟩
  clear hK K
  (try simp only [Act.put, List.setIfInBounds_toArray, List.set_cons_zero, List.set_cons_succ])
  refine Draw.call_d (i := 5) rfl (by kernel_rfl) (by rfl) (fun K hK => ?_)
  go_simp
  refine (H2.out _).mono ?_
  rintro e w3 ⟨rfl, b2⟩
  replace HA := Lib.hid (at_below HA.out b2)
  replace HB := Lib.hid (below_on HB.out b2)
  clear b2
  refine hK.out _ _ ?_ (fun hHeld => ?_)
  · (try dsimp only)
    exact ⟨(at8 HA.out).1, (at8 HA.out).2.1, (at8 HA.out).2.2.1, (at8 HA.out).2.2.2.1, (at8 HA.out).2.2.2.2.1, (at8 HA.out).2.2.2.2.2.1, (at8 HA.out).2.2.2.2.2.2.1, (at8 HA.out).2.2.2.2.2.2.2.1⟩
  clear hK K
  (try simp only [Act.put, List.setIfInBounds_toArray, List.set_cons_zero, List.set_cons_succ])
  refine Draw.take_w (i := 6) (v := ?vv66) rfl (by kernel_rfl) (by kernel_rfl) (by kernel_rfl) (fun _ _ _ h => h) (by rfl) ?hy66 (by assumption) ?rest66
  case hy66 => ((intro w hSw); (try dsimp only at hSw); go_simp; (try with_reducible rfl))
  (try simp only [Act.put, List.setIfInBounds_toArray, List.set_cons_zero, List.set_cons_succ])
  refine Draw.take_w (i := 7) (v := ?vv67) rfl (by kernel_rfl) (by kernel_rfl) (by kernel_rfl) (fun _ _ _ h => h) (by rfl) ?hy67 (by assumption) ?rest67
  case hy67 => ((intro w hSw); (try dsimp only at hSw); go_simp; (try with_reducible rfl))
  (try simp only [Act.put, List.setIfInBounds_toArray, List.set_cons_zero, List.set_cons_succ])
  refine wpAnyH_done (by kernel_rfl) ?_ _
  obtain ⟨x0, x1, x2, x3, x4, x5, x6, x7, -⟩ := at8 HA.out
  go_wp2_with (fail)
  clear x0 x1 x2 x3 x4 x5 x6 x7
  refine (H0.out _).mono ?_
  rintro e w4 ⟨rfl, b2⟩
  replace HA := Lib.hid (at_below HA.out b2)
  replace HB := Lib.hid (below_on HB.out b2)
  clear b2
  obtain ⟨x0, x1, x2, x3, x4, x5, x6, x7, -⟩ := at8 HA.out
  go_wp2_with (fail)
  go_ret
  exact ⟨rfl, HB.out⟩
set_option maxRecDepth 100000 in
set_option maxHeartbeats 1600000 in
theorem over_d1 (rk : ByteArray) (rp rl rn rd rf rx : Int) (rb : ByteArray) (s t : Int) (w : World) (hg : gr rk rb = false) (hst : t < s) (h1 : rd = 3) (h2 : ¬ rx = 0) (h3 : ¬ s < rx) : Calls Try.prog 4 #[.agg #[.string rk, .int .u64 rp, .int .u32 rl, .int .u8 rn, .int .u8 rd, .int .u32 rf, .int .u64 rx, .string rb], .int .u64 s, .int .u64 t] w fun e w' => e = .returned (.bool true) ∧ Below w.heap.size w w' := by
  have HG := Lib.hid (fun b t w h => great1 rk rp rl rn rd rf rx rb b t w h)
  rw [hg] at HG
  have l1 : liveR rd rx s = false := by unfold liveR; rw [if_pos h1, if_neg h2]; exact decide_eq_false h3
  have l2 : liveR rd rx t = liveR rd rx t := rfl
  have c1 : (rd == 3) = true := beq_iff_eq.2 h1
  have c2 : (rd != 3) = false := by rw [h1]; rfl
  have c3 : (rx != 0) = true := bne_iff_ne.2 h2
  have c9 : decide (t < s) = true := decide_eq_true (by omega)
  have g1 := fun w => live_any rk rp rl rn rd rf rx rb s w
  have g2 := fun w => live_any rk rp rl rn rd rf rx rb t w
  rw [l1] at g1
  rw [l2] at g2
  generalize liveR rd rx t = lb at *
  have H0 := Lib.hid fixed_any
  have H1 := Lib.hid g1
  have H2 := Lib.hid g2
  clear l1 l2 g1 g2 h1 h2 h3
  go_enter Try.func4, Try.ntmps4
  go_wp2_with (fail)
  have hA2 := at_new (w.alloc (.cells #[.string rk, .int .u64 rp, .int .u32 rl, .int .u8 rn, .int .u8 rd, .int .u32 rf, .int .u64 rx, .string rb] 27)) #[.string rk, .int .u64 rp, .int .u32 rl, .int .u8 rn, .int .u8 rd, .int .u32 rf, .int .u64 rx, .string rb] 27
  rw [World.size_alloc] at hA2
  refine (HG.out (w.heap.size + 1) _ _ hA2).mono ?_
  rintro e w1 ⟨rfl, b1⟩
  clear hA2
  have HA := Lib.hid (at_below (at_alloc (o := .cells #[.string rk, .int .u64 rp, .int .u32 rl, .int .u8 rn, .int .u8 rd, .int .u32 rf, .int .u64 rx, .string rb] 27) (at_new w #[.string rk, .int .u64 rp, .int .u32 rl, .int .u8 rn, .int .u8 rd, .int .u32 rf, .int .u64 rx, .string rb] 27)) b1)
  have HB := Lib.hid (below_on (below_al (o := .cells #[.string rk, .int .u64 rp, .int .u32 rl, .int .u8 rn, .int .u8 rd, .int .u32 rf, .int .u64 rx, .string rb] 27) (below_al (o := .cells #[.string rk, .int .u64 rp, .int .u32 rl, .int .u8 rn, .int .u8 rd, .int .u32 rf, .int .u64 rx, .string rb] 27) (Below.refl w.heap.size w))) b1)
  clear b1
  go_wp2_with (fail)
  replace HA := Lib.hid (at_drew HA.out)
  replace HB := Lib.hid (Below.drew HB.out)
  refine wp_region_held_drew (S := (fun W => W.cell? ⟨w.heap.size, 0, none⟩ = some (.string rk) ∧ W.cell? ⟨w.heap.size, 1, none⟩ = some (.int .u64 rp) ∧ W.cell? ⟨w.heap.size, 2, none⟩ = some (.int .u32 rl) ∧ W.cell? ⟨w.heap.size, 3, none⟩ = some (.int .u8 rn) ∧ W.cell? ⟨w.heap.size, 4, none⟩ = some (.int .u8 rd) ∧ W.cell? ⟨w.heap.size, 5, none⟩ = some (.int .u32 rf) ∧ W.cell? ⟨w.heap.size, 6, none⟩ = some (.int .u64 rx) ∧ W.cell? ⟨w.heap.size, 7, none⟩ = some (.string rb))) (by kernel_rfl) ?_ (fun hHeld => ?_)
  · (try dsimp only)
    exact ⟨(at8 HA.out).1, (at8 HA.out).2.1, (at8 HA.out).2.2.1, (at8 HA.out).2.2.2.1, (at8 HA.out).2.2.2.2.1, (at8 HA.out).2.2.2.2.2.1, (at8 HA.out).2.2.2.2.2.2.1, (at8 HA.out).2.2.2.2.2.2.2.1⟩
  refine Draw.take_w (i := 0) (v := ?vv68) rfl (by kernel_rfl) (by kernel_rfl) (by kernel_rfl) (fun _ _ _ h => h) (by rfl) ?hy68 (by assumption) ?rest68
  case hy68 => ((intro w hSw); (try dsimp only at hSw); go_simp; (try with_reducible rfl))
  (try simp only [Act.put, List.setIfInBounds_toArray, List.set_cons_zero, List.set_cons_succ])
  refine Draw.take_w (i := 1) (v := ?vv69) rfl (by kernel_rfl) (by kernel_rfl) (by kernel_rfl) (fun _ _ _ h => h) (by rfl) ?hy69 (by assumption) ?rest69
  case hy69 => ((intro w hSw); (try dsimp only at hSw); go_simp; (try with_reducible rfl))
  (try simp only [Act.put, List.setIfInBounds_toArray, List.set_cons_zero, List.set_cons_succ])
  refine Draw.take_w (i := 3) (v := ?vv70) rfl (by kernel_rfl) (by kernel_rfl) (by kernel_rfl) (fun _ _ _ h => h) (by rfl) ?hy70 (by assumption) ?rest70
  case hy70 => ((intro w hSw); (try dsimp only at hSw); go_simp; (try with_reducible rfl))
  (try simp only [Act.put, List.setIfInBounds_toArray, List.set_cons_zero, List.set_cons_succ])
  refine Draw.take_w (i := 4) (v := ?vv71) rfl (by kernel_rfl) (by kernel_rfl) (by kernel_rfl) (fun _ _ _ h => h) (by rfl) ?hy71 (by assumption) ?rest71
  case hy71 => ((intro w hSw); (try dsimp only at hSw); go_simp; (try with_reducible rfl))
  (try simp only [Act.put, List.setIfInBounds_toArray, List.set_cons_zero, List.set_cons_succ])
  refine Draw.call_d (i := 2) rfl (by kernel_rfl) (by rfl) (fun K hK => ?_)
  go_simp
  refine (H1.out _).mono ?_
  rintro e w2 ⟨rfl, b2⟩
  replace HA := Lib.hid (at_below HA.out b2)
  replace HB := Lib.hid (below_on HB.out b2)
  clear b2
  refine hK.out _ _ ?_ (fun hHeld => ?_)
  · (try dsimp only)
    exact ⟨(at8 HA.out).1, (at8 HA.out).2.1, (at8 HA.out).2.2.1, (at8 HA.out).2.2.2.1, (at8 HA.out).2.2.2.2.1, (at8 HA.out).2.2.2.2.2.1, (at8 HA.out).2.2.2.2.2.2.1, (at8 HA.out).2.2.2.2.2.2.2.1⟩
  clear hK K
  (try simp only [Act.put, List.setIfInBounds_toArray, List.set_cons_zero, List.set_cons_succ])
  refine Draw.call_d (i := 5) rfl (by kernel_rfl) (by rfl) (fun K hK => ?_)
  go_simp
  refine (H2.out _).mono ?_
  rintro e w3 ⟨rfl, b2⟩
  replace HA := Lib.hid (at_below HA.out b2)
  replace HB := Lib.hid (below_on HB.out b2)
  clear b2
  refine hK.out _ _ ?_ (fun hHeld => ?_)
  · (try dsimp only)
    exact ⟨(at8 HA.out).1, (at8 HA.out).2.1, (at8 HA.out).2.2.1, (at8 HA.out).2.2.2.1, (at8 HA.out).2.2.2.2.1, (at8 HA.out).2.2.2.2.2.1, (at8 HA.out).2.2.2.2.2.2.1, (at8 HA.out).2.2.2.2.2.2.2.1⟩
  clear hK K
  (try simp only [Act.put, List.setIfInBounds_toArray, List.set_cons_zero, List.set_cons_succ])
  refine Draw.take_w (i := 6) (v := ?vv72) rfl (by kernel_rfl) (by kernel_rfl) (by kernel_rfl) (fun _ _ _ h => h) (by rfl) ?hy72 (by assumption) ?rest72
  case hy72 => ((intro w hSw); (try dsimp only at hSw); go_simp; (try with_reducible rfl))
  (try simp only [Act.put, List.setIfInBounds_toArray, List.set_cons_zero, List.set_cons_succ])
  refine Draw.take_w (i := 7) (v := ?vv73) rfl (by kernel_rfl) (by kernel_rfl) (by kernel_rfl) (fun _ _ _ h => h) (by rfl) ?hy73 (by assumption) ?rest73
  case hy73 => ((intro w hSw); (try dsimp only at hSw); go_simp; (try with_reducible rfl))
  (try simp only [Act.put, List.setIfInBounds_toArray, List.set_cons_zero, List.set_cons_succ])
  refine wpAnyH_done (by kernel_rfl) ?_ _
  obtain ⟨x0, x1, x2, x3, x4, x5, x6, x7, -⟩ := at8 HA.out
  go_wp2_with (fail)
  clear x0 x1 x2 x3 x4 x5 x6 x7
  refine (H0.out _).mono ?_
  rintro e w4 ⟨rfl, b2⟩
  replace HA := Lib.hid (at_below HA.out b2)
  replace HB := Lib.hid (below_on HB.out b2)
  clear b2
  obtain ⟨x0, x1, x2, x3, x4, x5, x6, x7, -⟩ := at8 HA.out
  go_wp2_with (fail)
  go_ret
  exact ⟨rfl, HB.out⟩
theorem RecOver_walk (rk : ByteArray) (rp rl rn rd rf rx : Int) (rb : ByteArray) (s t : Int) (w : World) : Calls Try.prog 4 #[.agg #[.string rk, .int .u64 rp, .int .u32 rl, .int .u8 rn, .int .u8 rd, .int .u32 rf, .int .u64 rx, .string rb], .int .u64 s, .int .u64 t] w fun e w' => e = .returned (.bool true) ∧ Below w.heap.size w w' := by
  cases hg : gr rk rb
  · by_cases hs : s ≤ t
    · by_cases h1 : rd = 3
      · by_cases h2 : rx = 0
        · exact over_b0 rk rp rl rn rd rf rx rb s t w hg hs h1 h2
        · by_cases h3 : t < rx
          · exact over_c0 rk rp rl rn rd rf rx rb s t w hg hs h1 h2 h3
          · exact over_d0 rk rp rl rn rd rf rx rb s t w hg hs h1 h2 h3
      · exact over_a0 rk rp rl rn rd rf rx rb s t w hg hs h1
    · by_cases h1 : rd = 3
      · by_cases h2 : rx = 0
        · exact over_b1 rk rp rl rn rd rf rx rb s t w hg (by omega) h1 h2
        · by_cases h3 : s < rx
          · exact over_c1 rk rp rl rn rd rf rx rb s t w hg (by omega) h1 h2 h3
          · exact over_d1 rk rp rl rn rd rf rx rb s t w hg (by omega) h1 h2 h3
      · exact over_a1 rk rp rl rn rd rf rx rb s t w hg (by omega) h1
  · exact over_great rk rp rl rn rd rf rx rb s t w hg
end Go.Proofs.Ytlohnhjfdmldnaa.Rec

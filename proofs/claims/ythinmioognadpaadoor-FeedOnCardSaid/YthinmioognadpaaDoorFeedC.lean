/- Merged of FeedNlN, FeedNlP, FeedNlZ (own text; wip/tools/merge.py). -/
import Derived.Test.YthinmioognadpaaDoorFeedB
/- line: a line is at its end (own text; written by wip/tools/gen_feednl.py). -/
namespace Go.Proofs.YthinmioognadpaaDoor.Feed
open Go.RowKit Go.Proofs.YthinmioognadpaaDoor.Mem Go.Proofs.YthinmioognadpaaDoorW.PrintWords Go.Proofs.YthinmioognadpaaDoorW.PrintLast Go.Proofs.YthinmioognadpaaDoorW.PrintMore
set_option linter.unusedVariables false
set_option linter.unusedSimpArgs false
set_option maxRecDepth 100000 in
set_option maxHeartbeats 3200000 in
theorem nl_Ne (b : Nat) (s : St) (hv : Value) (c : Cm) (d : Int) (w : World) (h : FeedAt w b s hv) (hl : s.held.length ≤ 100000) (hp : ParseIs s.held c d) (hq : s.held.length = 0) (hd : d < 0) :
    Calls Tryd.prog 14 #[.pointer (some ⟨b, 0, none⟩), .int .u8 10] w (StepsTo b hv w { s with held := [], over := c.kind == 7 } c true) := by
  obtain ⟨kv, ha, hr, hk⟩ := h
  have HL := Lib.hid hl
  obtain ⟨A0, c0, ev⟩ := Kd.R_slice hr
  obtain ⟨n0, hn0⟩ : ∃ n, n = s.held.length := ⟨_, rfl⟩
  rw [← hn0] at ev
  have HN0 := Lib.hid hn0
  clear hn0
  subst ev
  go_enter Tryd.func14, Tryd.ntmps14
  go_upto_region 1 with (fail)
  have HA := Lib.hid (at_alloc (o := .cells Z7 28) ha)
  have HR1 := Lib.hid (Kd.R_alloc hr (.cells Z7 28))
  have HK := Lib.hid (keys_below hk (below_alloc (Below.refl _ _) (.cells Z7 28)))
  have HY := Lib.hid (at_new w Z7 28)
  have HT := Lib.hid (turn_below (turn_refl b (.slice A0 n0 c0) w) (below_alloc (Below.refl _ _) (.cells Z7 28)))
  have hsz : w.heap.size < (w.alloc (.cells Z7 28)).heap.size := by rw [World.size_alloc]; omega
  have hb := ha.lt
  clear ha hr hk hl
  unfold Z7 at HA HR1 HK HY HT hsz
  generalize w.alloc (.cells #[.int .i64 0, .slice none 0 0, .int .u32 0, .int .i64 0, .string ⟨#[]⟩, .bool false, .string ⟨#[]⟩] 28) = w0 at *
  replace HY : Hid (At w0 w.heap.size Z7 28) := HY
  have c1 : w0.cell? ⟨b, 1, none⟩ = some (.slice A0 n0 c0) := HA.out.cell 1
  obtain rfl : n0 = 0 := by have := HN0.out; omega
  have hcv := held_string HR1.out HN0.out
  rw [← lineL_nil s.held hq] at hcv
  clear hq
  obtain ⟨TX, hTX⟩ : ∃ t, t = strOfNums (lineL s.held) := ⟨_, rfl⟩
  unfold ParseIs at hp
  rw [← hTX] at hcv hp
  unfold cmV at hp
  have HP := Lib.hid hp
  clear hp hTX
  go_upto_region 12 with (fail)
  go_upto_region 13 with ((with_reducible refine (HP.out _).mono ?_); rintro e w1 ⟨v, rfl, hkv, hb1⟩; obtain ⟨kA, kc, ek, -⟩ := Kd.Q_slice hkv; obtain ⟨kn, hkn⟩ : ∃ n, n = c.keys.length := ⟨_, rfl⟩; rw [← hkn] at ek; clear hkn; subst ek)
  have hz1 := hb1.size
  have hbw := HA.out.lt
  have hyw := HY.out.lt
  have HZ1 := Lib.hid (at_new w1 #[.int .i64 c.kind, .slice kA kn kc, .int .u32 c.fl, .int .i64 c.ex, .string c.body, .bool c.quiet, .string c.reply] 28)
  have HA1 := Lib.hid (at_alloc (o := .cells #[.int .i64 c.kind, .slice kA kn kc, .int .u32 c.fl, .int .i64 c.ex, .string c.body, .bool c.quiet, .string c.reply] 28) (at_below HA.out hb1))
  have HR2 := Lib.hid (Kd.R_alloc (Kd.R_below HR1.out hb1) (.cells #[.int .i64 c.kind, .slice kA kn kc, .int .u32 c.fl, .int .i64 c.ex, .string c.body, .bool c.quiet, .string c.reply] 28))
  have HK1 := Lib.hid (keys_below (keys_below HK.out hb1) (below_alloc (Below.refl _ _) (.cells #[.int .i64 c.kind, .slice kA kn kc, .int .u32 c.fl, .int .i64 c.ex, .string c.body, .bool c.quiet, .string c.reply] 28)))
  have HV1 := Lib.hid (keys_below hkv (below_alloc (Below.refl _ _) (.cells #[.int .i64 c.kind, .slice kA kn kc, .int .u32 c.fl, .int .i64 c.ex, .string c.body, .bool c.quiet, .string c.reply] 28)))
  have HY1 := Lib.hid (at_alloc (o := .cells #[.int .i64 c.kind, .slice kA kn kc, .int .u32 c.fl, .int .i64 c.ex, .string c.body, .bool c.quiet, .string c.reply] 28) (at_below HY.out hb1))
  have HT1 := Lib.hid (turn_below (turn_below HT.out hb1) (below_alloc (Below.refl _ _) (.cells #[.int .i64 c.kind, .slice kA kn kc, .int .u32 c.fl, .int .i64 c.ex, .string c.body, .bool c.quiet, .string c.reply] 28)))
  clear HA HR1 HK HY HT hkv hb1 HP hcv c1
  generalize w1.alloc (.cells #[.int .i64 c.kind, .slice kA kn kc, .int .u32 c.fl, .int .i64 c.ex, .string c.body, .bool c.quiet, .string c.reply] 28) = w2 at *
  generalize hz : w1.heap.size = z at *
  have hbz : z ≠ b := by omega
  have hby : w.heap.size ≠ b := by omega
  have hyz : w.heap.size ≠ z := by omega
  have hwz : w.heap.size ≤ z := by omega
  clear hz hz1
  have c1 : w2.cell? ⟨b, 1, none⟩ = some (.slice A0 0 c0) := HA1.out.cell 1
  have f1 := HA1.out.free 1
  go_upto_region 14 with (fail)
  have kb : Chg (fun i => i = b) w2 (w2.setCell ⟨b, 1, none⟩ (.slice A0 0 c0)) := chg_set (chg_refl _ _) rfl
  have HA3 := Lib.hid (show At (w2.setCell ⟨b, 1, none⟩ (.slice A0 0 c0)) b (feedA b { s with held := [] } (.slice A0 0 c0) kv) 42 from at_set' HA1.out rfl)
  have HR3 := Lib.hid (Kd.R_mono (Kd.R_step (Kd.R_tight rfl (R_cut0 HR2.out HN0.out)) (fun j hj hlt => kb.block j hlt (fun e => own_ne HA1.out HR2.out (by rw [← cut0_own A0 0 c0, ← e]; exact hj)))) (fun _ _ => trivial))
  have HK3 := Lib.hid (keys_res HK1.out HA1.out (by decide) kb)
  have HV3 := Lib.hid (keys_res HV1.out HA1.out (by decide) kb)
  have HY3 := Lib.hid (show At (w2.setCell ⟨b, 1, none⟩ (.slice A0 0 c0)) w.heap.size Z7 28 from (kb.block _ HY1.out.lt hby).trans HY1.out)
  have HZ3 := Lib.hid (show At (w2.setCell ⟨b, 1, none⟩ (.slice A0 0 c0)) z #[.int .i64 c.kind, .slice kA kn kc, .int .u32 c.fl, .int .i64 c.ex, .string c.body, .bool c.quiet, .string c.reply] 28 from (kb.block _ HZ1.out.lt hbz).trans HZ1.out)
  have HT3 := Lib.hid (turn_set (i := 1) (v := .slice A0 0 c0) HT1.out)
  clear kb HA1 HR2 HK1 HV1 HY1 HZ1 HT1 c1 f1
  generalize w2.setCell ⟨b, 1, none⟩ (.slice A0 0 c0) = w3 at *
  have hd0 : decide ((0 : Int) ≤ d) = false := decide_eq_false (by omega)
  obtain ⟨t0, t1, t2, t3, t4, t5, t6, -⟩ := at7 HZ3.out
  have e12 : w3.cell? ⟨b, 12, none⟩ = some (.bool s.over) := HA3.out.cell 12
  have f12 := HA3.out.free 12
  go_upto_region 21 with (fail)
  have kb : Chg (fun i => i = b) w3 (w3.setCell ⟨b, 12, none⟩ (.bool (c.kind == 7))) := chg_set (chg_refl _ _) rfl
  have HF9 := Lib.hid (feed_upd (s' := { s with held := [], over := c.kind == 7 }) HA3.out HR3.out HK3.out kb (at_set' HA3.out rfl) rfl rfl)
  have HV9 := Lib.hid (keys_res HV3.out HA3.out (by decide) kb)
  have HY9 := Lib.hid (show At (w3.setCell ⟨b, 12, none⟩ (.bool (c.kind == 7))) w.heap.size Z7 28 from (kb.block _ HY3.out.lt hby).trans HY3.out)
  have HZ9 := Lib.hid (show At (w3.setCell ⟨b, 12, none⟩ (.bool (c.kind == 7))) z #[.int .i64 c.kind, .slice kA kn kc, .int .u32 c.fl, .int .i64 c.ex, .string c.body, .bool c.quiet, .string c.reply] 28 from (kb.block _ HZ3.out.lt hbz).trans HZ3.out)
  have HT9 := Lib.hid (turn_set (i := 12) (v := .bool (c.kind == 7)) HT3.out)
  clear kb HA3 HR3 HK3 HV3 HY3 HZ3 HT3 e12 f12 t0 t1 t2 t3 t4 t5 t6
  generalize w3.setCell ⟨b, 12, none⟩ (.bool (c.kind == 7)) = w9 at *
  obtain ⟨t0, t1, t2, t3, t4, t5, t6, -⟩ := at7 HZ9.out
  obtain ⟨q0, q1, q2, q3, q4, q5, q6, r0, r1, r2, r3, r4, r5, r6⟩ := at7 (show At w9 w.heap.size #[.int .i64 0, .slice none 0 0, .int .u32 0, .int .i64 0, .string ⟨#[]⟩, .bool false, .string ⟨#[]⟩] 28 from HY9.out)
  go_wp2_with (fail)
  refine bodyPost_ret (results_ct (p := 4) (u := 5) (ty := 28) (fn := Tryd.f14) ?h0 _ _ w.heap.size 28 #[.int .i64 c.kind, .slice kA kn kc, .int .u32 c.fl, .int .i64 c.ex, .string c.body, .bool c.quiet, .string c.reply] (0, 0) _ ?h1 ?h2 Tryd.underlying28 rfl (by kernel_rfl)) ?h3 ?h4
  case h0 => rfl
  case h1 => rfl
  case h2 => exact at_put7 HY9.out
  case h3 => rfl
  case h4 => exact ⟨.slice A0 0 c0, .slice kA kn kc, rfl, keys_res HV9.out HY9.out (by decide) (chg_set7 (chg_refl _ _)), feed_res HF9.out HY9.out (chg_set7 (chg_refl _ _)), turn_new7 HT9.out (Nat.le_refl _), .inl (cut0_own A0 0 c0)⟩
set_option maxRecDepth 100000 in
set_option maxHeartbeats 3200000 in
theorem nl_Nn (b : Nat) (s : St) (hv : Value) (c : Cm) (d : Int) (w : World) (h : FeedAt w b s hv) (hl : s.held.length ≤ 100000) (hp : ParseIs s.held c d) (hq : 0 < s.held.length) (h13 : ¬ s.held.getLast? = some 13) (hd : d < 0) :
    Calls Tryd.prog 14 #[.pointer (some ⟨b, 0, none⟩), .int .u8 10] w (StepsTo b hv w { s with held := [], over := c.kind == 7 } c true) := by
  obtain ⟨kv, ha, hr, hk⟩ := h
  have HL := Lib.hid hl
  obtain ⟨A0, c0, ev⟩ := Kd.R_slice hr
  obtain ⟨n0, hn0⟩ : ∃ n, n = s.held.length := ⟨_, rfl⟩
  rw [← hn0] at ev
  have HN0 := Lib.hid hn0
  clear hn0
  subst ev
  go_enter Tryd.func14, Tryd.ntmps14
  go_upto_region 1 with (fail)
  have HA := Lib.hid (at_alloc (o := .cells Z7 28) ha)
  have HR1 := Lib.hid (Kd.R_alloc hr (.cells Z7 28))
  have HK := Lib.hid (keys_below hk (below_alloc (Below.refl _ _) (.cells Z7 28)))
  have HY := Lib.hid (at_new w Z7 28)
  have HT := Lib.hid (turn_below (turn_refl b (.slice A0 n0 c0) w) (below_alloc (Below.refl _ _) (.cells Z7 28)))
  have hsz : w.heap.size < (w.alloc (.cells Z7 28)).heap.size := by rw [World.size_alloc]; omega
  have hb := ha.lt
  clear ha hr hk hl
  unfold Z7 at HA HR1 HK HY HT hsz
  generalize w.alloc (.cells #[.int .i64 0, .slice none 0 0, .int .u32 0, .int .i64 0, .string ⟨#[]⟩, .bool false, .string ⟨#[]⟩] 28) = w0 at *
  replace HY : Hid (At w0 w.heap.size Z7 28) := HY
  obtain ⟨g0, ev⟩ : ∃ g, A0 = some ⟨g, 0, none⟩ := by
    obtain ⟨g, cap, e, -⟩ := Kd.R_form HR1.out (by omega)
    injection e with e
    exact ⟨g, e⟩
  subst ev
  have c1 : w0.cell? ⟨b, 1, none⟩ = some (.slice (some ⟨g0, 0, none⟩) n0 c0) := HA.out.cell 1
  obtain ⟨y, hy⟩ : ∃ y : Int, y = ((s.held.length - 1 : Nat) : Int) := ⟨_, rfl⟩
  have h7 : (n0 : Int) - 1 = y := by have h8 := HN0.out; omega
  have y1 : (0 : Int) ≤ y := by omega
  have y2 : y < (n0 : Int) := by have := HN0.out; omega
  have y0 : IntKind.i64.wrap ((n0 : Int) - 1) = y := by have h8 := HN0.out; have h9 := HL.out; rw [h7]; exact IntWalk.i64_in y ⟨by omega, by omega⟩
  have y3 : y ≤ (c0 : Int) := by have h8 := (Kd.R_reads' HR1.out).2.1; omega
  have hg : decide ((0 : Int) < (n0 : Int)) = true := decide_eq_true (by omega)
  have hyn : y.toNat + 1 = s.held.length := by omega
  obtain ⟨x0, x1⟩ := Kd.R_celln 0 HR1.out y y1 y2
  have x2 := last_rd s.held hq
  rw [← hy] at x2
  clear h7 hy hq
  have x3 : (rdOf 0 s.held y == 13) = false := beq_eq_false_iff_ne.2 (fun e => h13 (by rw [x2, e]))
  have hcv := held_string HR1.out HN0.out
  rw [← lineL_ne s.held h13] at hcv
  clear x2 hyn h13
  generalize rdOf 0 s.held y = xl at *
  obtain ⟨TX, hTX⟩ : ∃ t, t = strOfNums (lineL s.held) := ⟨_, rfl⟩
  unfold ParseIs at hp
  rw [← hTX] at hcv hp
  unfold cmV at hp
  have HP := Lib.hid hp
  clear hp hTX
  go_upto_region 12 with (fail)
  go_upto_region 13 with ((with_reducible refine (HP.out _).mono ?_); rintro e w1 ⟨v, rfl, hkv, hb1⟩; obtain ⟨kA, kc, ek, -⟩ := Kd.Q_slice hkv; obtain ⟨kn, hkn⟩ : ∃ n, n = c.keys.length := ⟨_, rfl⟩; rw [← hkn] at ek; clear hkn; subst ek)
  have hz1 := hb1.size
  have hbw := HA.out.lt
  have hyw := HY.out.lt
  have HZ1 := Lib.hid (at_new w1 #[.int .i64 c.kind, .slice kA kn kc, .int .u32 c.fl, .int .i64 c.ex, .string c.body, .bool c.quiet, .string c.reply] 28)
  have HA1 := Lib.hid (at_alloc (o := .cells #[.int .i64 c.kind, .slice kA kn kc, .int .u32 c.fl, .int .i64 c.ex, .string c.body, .bool c.quiet, .string c.reply] 28) (at_below HA.out hb1))
  have HR2 := Lib.hid (Kd.R_alloc (Kd.R_below HR1.out hb1) (.cells #[.int .i64 c.kind, .slice kA kn kc, .int .u32 c.fl, .int .i64 c.ex, .string c.body, .bool c.quiet, .string c.reply] 28))
  have HK1 := Lib.hid (keys_below (keys_below HK.out hb1) (below_alloc (Below.refl _ _) (.cells #[.int .i64 c.kind, .slice kA kn kc, .int .u32 c.fl, .int .i64 c.ex, .string c.body, .bool c.quiet, .string c.reply] 28)))
  have HV1 := Lib.hid (keys_below hkv (below_alloc (Below.refl _ _) (.cells #[.int .i64 c.kind, .slice kA kn kc, .int .u32 c.fl, .int .i64 c.ex, .string c.body, .bool c.quiet, .string c.reply] 28)))
  have HY1 := Lib.hid (at_alloc (o := .cells #[.int .i64 c.kind, .slice kA kn kc, .int .u32 c.fl, .int .i64 c.ex, .string c.body, .bool c.quiet, .string c.reply] 28) (at_below HY.out hb1))
  have HT1 := Lib.hid (turn_below (turn_below HT.out hb1) (below_alloc (Below.refl _ _) (.cells #[.int .i64 c.kind, .slice kA kn kc, .int .u32 c.fl, .int .i64 c.ex, .string c.body, .bool c.quiet, .string c.reply] 28)))
  clear HA HR1 HK HY HT hkv hb1 HP hcv c1 hg x0 x1 x3 y0 y1 y2 y3
  generalize w1.alloc (.cells #[.int .i64 c.kind, .slice kA kn kc, .int .u32 c.fl, .int .i64 c.ex, .string c.body, .bool c.quiet, .string c.reply] 28) = w2 at *
  generalize hz : w1.heap.size = z at *
  have hbz : z ≠ b := by omega
  have hby : w.heap.size ≠ b := by omega
  have hyz : w.heap.size ≠ z := by omega
  have hwz : w.heap.size ≤ z := by omega
  clear hz hz1
  have c1 : w2.cell? ⟨b, 1, none⟩ = some (.slice (some ⟨g0, 0, none⟩) n0 c0) := HA1.out.cell 1
  have f1 := HA1.out.free 1
  go_upto_region 14 with (fail)
  have kb : Chg (fun i => i = b) w2 (w2.setCell ⟨b, 1, none⟩ (.slice (some ⟨g0, 0, none⟩) 0 c0)) := chg_set (chg_refl _ _) rfl
  have HA3 := Lib.hid (show At (w2.setCell ⟨b, 1, none⟩ (.slice (some ⟨g0, 0, none⟩) 0 c0)) b (feedA b { s with held := [] } (.slice (some ⟨g0, 0, none⟩) 0 c0) kv) 42 from at_set' HA1.out rfl)
  have HR3 := Lib.hid (Kd.R_mono (Kd.R_step (Kd.R_tight rfl (R_cut0 HR2.out HN0.out)) (fun j hj hlt => kb.block j hlt (fun e => own_ne HA1.out HR2.out (by rw [← cut0_own (some ⟨g0, 0, none⟩) n0 c0, ← e]; exact hj)))) (fun _ _ => trivial))
  have HK3 := Lib.hid (keys_res HK1.out HA1.out (by decide) kb)
  have HV3 := Lib.hid (keys_res HV1.out HA1.out (by decide) kb)
  have HY3 := Lib.hid (show At (w2.setCell ⟨b, 1, none⟩ (.slice (some ⟨g0, 0, none⟩) 0 c0)) w.heap.size Z7 28 from (kb.block _ HY1.out.lt hby).trans HY1.out)
  have HZ3 := Lib.hid (show At (w2.setCell ⟨b, 1, none⟩ (.slice (some ⟨g0, 0, none⟩) 0 c0)) z #[.int .i64 c.kind, .slice kA kn kc, .int .u32 c.fl, .int .i64 c.ex, .string c.body, .bool c.quiet, .string c.reply] 28 from (kb.block _ HZ1.out.lt hbz).trans HZ1.out)
  have HT3 := Lib.hid (turn_set (i := 1) (v := .slice (some ⟨g0, 0, none⟩) 0 c0) HT1.out)
  clear kb HA1 HR2 HK1 HV1 HY1 HZ1 HT1 c1 f1
  generalize w2.setCell ⟨b, 1, none⟩ (.slice (some ⟨g0, 0, none⟩) 0 c0) = w3 at *
  have hd0 : decide ((0 : Int) ≤ d) = false := decide_eq_false (by omega)
  obtain ⟨t0, t1, t2, t3, t4, t5, t6, -⟩ := at7 HZ3.out
  have e12 : w3.cell? ⟨b, 12, none⟩ = some (.bool s.over) := HA3.out.cell 12
  have f12 := HA3.out.free 12
  go_upto_region 21 with (fail)
  have kb : Chg (fun i => i = b) w3 (w3.setCell ⟨b, 12, none⟩ (.bool (c.kind == 7))) := chg_set (chg_refl _ _) rfl
  have HF9 := Lib.hid (feed_upd (s' := { s with held := [], over := c.kind == 7 }) HA3.out HR3.out HK3.out kb (at_set' HA3.out rfl) rfl rfl)
  have HV9 := Lib.hid (keys_res HV3.out HA3.out (by decide) kb)
  have HY9 := Lib.hid (show At (w3.setCell ⟨b, 12, none⟩ (.bool (c.kind == 7))) w.heap.size Z7 28 from (kb.block _ HY3.out.lt hby).trans HY3.out)
  have HZ9 := Lib.hid (show At (w3.setCell ⟨b, 12, none⟩ (.bool (c.kind == 7))) z #[.int .i64 c.kind, .slice kA kn kc, .int .u32 c.fl, .int .i64 c.ex, .string c.body, .bool c.quiet, .string c.reply] 28 from (kb.block _ HZ3.out.lt hbz).trans HZ3.out)
  have HT9 := Lib.hid (turn_set (i := 12) (v := .bool (c.kind == 7)) HT3.out)
  clear kb HA3 HR3 HK3 HV3 HY3 HZ3 HT3 e12 f12 t0 t1 t2 t3 t4 t5 t6
  generalize w3.setCell ⟨b, 12, none⟩ (.bool (c.kind == 7)) = w9 at *
  obtain ⟨t0, t1, t2, t3, t4, t5, t6, -⟩ := at7 HZ9.out
  obtain ⟨q0, q1, q2, q3, q4, q5, q6, r0, r1, r2, r3, r4, r5, r6⟩ := at7 (show At w9 w.heap.size #[.int .i64 0, .slice none 0 0, .int .u32 0, .int .i64 0, .string ⟨#[]⟩, .bool false, .string ⟨#[]⟩] 28 from HY9.out)
  go_wp2_with (fail)
  refine bodyPost_ret (results_ct (p := 4) (u := 5) (ty := 28) (fn := Tryd.f14) ?h0 _ _ w.heap.size 28 #[.int .i64 c.kind, .slice kA kn kc, .int .u32 c.fl, .int .i64 c.ex, .string c.body, .bool c.quiet, .string c.reply] (0, 0) _ ?h1 ?h2 Tryd.underlying28 rfl (by kernel_rfl)) ?h3 ?h4
  case h0 => rfl
  case h1 => rfl
  case h2 => exact at_put7 HY9.out
  case h3 => rfl
  case h4 => exact ⟨.slice (some ⟨g0, 0, none⟩) 0 c0, .slice kA kn kc, rfl, keys_res HV9.out HY9.out (by decide) (chg_set7 (chg_refl _ _)), feed_res HF9.out HY9.out (chg_set7 (chg_refl _ _)), turn_new7 HT9.out (Nat.le_refl _), .inl (cut0_own (some ⟨g0, 0, none⟩) n0 c0)⟩
set_option maxRecDepth 100000 in
set_option maxHeartbeats 3200000 in
theorem nl_Nr (b : Nat) (s : St) (hv : Value) (c : Cm) (d : Int) (w : World) (h : FeedAt w b s hv) (hl : s.held.length ≤ 100000) (hp : ParseIs s.held c d) (hq : 0 < s.held.length) (h13 : s.held.getLast? = some 13) (hd : d < 0) :
    Calls Tryd.prog 14 #[.pointer (some ⟨b, 0, none⟩), .int .u8 10] w (StepsTo b hv w { s with held := [], over := c.kind == 7 } c true) := by
  obtain ⟨kv, ha, hr, hk⟩ := h
  have HL := Lib.hid hl
  obtain ⟨A0, c0, ev⟩ := Kd.R_slice hr
  obtain ⟨n0, hn0⟩ : ∃ n, n = s.held.length := ⟨_, rfl⟩
  rw [← hn0] at ev
  have HN0 := Lib.hid hn0
  clear hn0
  subst ev
  go_enter Tryd.func14, Tryd.ntmps14
  go_upto_region 1 with (fail)
  have HA := Lib.hid (at_alloc (o := .cells Z7 28) ha)
  have HR1 := Lib.hid (Kd.R_alloc hr (.cells Z7 28))
  have HK := Lib.hid (keys_below hk (below_alloc (Below.refl _ _) (.cells Z7 28)))
  have HY := Lib.hid (at_new w Z7 28)
  have HT := Lib.hid (turn_below (turn_refl b (.slice A0 n0 c0) w) (below_alloc (Below.refl _ _) (.cells Z7 28)))
  have hsz : w.heap.size < (w.alloc (.cells Z7 28)).heap.size := by rw [World.size_alloc]; omega
  have hb := ha.lt
  clear ha hr hk hl
  unfold Z7 at HA HR1 HK HY HT hsz
  generalize w.alloc (.cells #[.int .i64 0, .slice none 0 0, .int .u32 0, .int .i64 0, .string ⟨#[]⟩, .bool false, .string ⟨#[]⟩] 28) = w0 at *
  replace HY : Hid (At w0 w.heap.size Z7 28) := HY
  obtain ⟨g0, ev⟩ : ∃ g, A0 = some ⟨g, 0, none⟩ := by
    obtain ⟨g, cap, e, -⟩ := Kd.R_form HR1.out (by omega)
    injection e with e
    exact ⟨g, e⟩
  subst ev
  have c1 : w0.cell? ⟨b, 1, none⟩ = some (.slice (some ⟨g0, 0, none⟩) n0 c0) := HA.out.cell 1
  obtain ⟨y, hy⟩ : ∃ y : Int, y = ((s.held.length - 1 : Nat) : Int) := ⟨_, rfl⟩
  have h7 : (n0 : Int) - 1 = y := by have h8 := HN0.out; omega
  have y1 : (0 : Int) ≤ y := by omega
  have y2 : y < (n0 : Int) := by have := HN0.out; omega
  have y0 : IntKind.i64.wrap ((n0 : Int) - 1) = y := by have h8 := HN0.out; have h9 := HL.out; rw [h7]; exact IntWalk.i64_in y ⟨by omega, by omega⟩
  have y3 : y ≤ (c0 : Int) := by have h8 := (Kd.R_reads' HR1.out).2.1; omega
  have hg : decide ((0 : Int) < (n0 : Int)) = true := decide_eq_true (by omega)
  have hyn : y.toNat + 1 = s.held.length := by omega
  obtain ⟨x0, x1⟩ := Kd.R_celln 0 HR1.out y y1 y2
  have x2 := last_rd s.held hq
  rw [← hy] at x2
  clear h7 hy hq
  rw [h13] at x2
  injection x2 with x2
  rw [← x2] at x0
  have hcv := held_string (Kd.R_take HR1.out (m := y.toNat) (by omega)) (by rw [List.length_take]; omega)
  rw [← lineL_cut s.held y.toNat hyn h13] at hcv
  clear x2 hyn h13
  obtain ⟨TX, hTX⟩ : ∃ t, t = strOfNums (lineL s.held) := ⟨_, rfl⟩
  unfold ParseIs at hp
  rw [← hTX] at hcv hp
  unfold cmV at hp
  have HP := Lib.hid hp
  clear hp hTX
  go_upto_region 12 with (fail)
  go_upto_region 13 with ((with_reducible refine (HP.out _).mono ?_); rintro e w1 ⟨v, rfl, hkv, hb1⟩; obtain ⟨kA, kc, ek, -⟩ := Kd.Q_slice hkv; obtain ⟨kn, hkn⟩ : ∃ n, n = c.keys.length := ⟨_, rfl⟩; rw [← hkn] at ek; clear hkn; subst ek)
  have hz1 := hb1.size
  have hbw := HA.out.lt
  have hyw := HY.out.lt
  have HZ1 := Lib.hid (at_new w1 #[.int .i64 c.kind, .slice kA kn kc, .int .u32 c.fl, .int .i64 c.ex, .string c.body, .bool c.quiet, .string c.reply] 28)
  have HA1 := Lib.hid (at_alloc (o := .cells #[.int .i64 c.kind, .slice kA kn kc, .int .u32 c.fl, .int .i64 c.ex, .string c.body, .bool c.quiet, .string c.reply] 28) (at_below HA.out hb1))
  have HR2 := Lib.hid (Kd.R_alloc (Kd.R_below HR1.out hb1) (.cells #[.int .i64 c.kind, .slice kA kn kc, .int .u32 c.fl, .int .i64 c.ex, .string c.body, .bool c.quiet, .string c.reply] 28))
  have HK1 := Lib.hid (keys_below (keys_below HK.out hb1) (below_alloc (Below.refl _ _) (.cells #[.int .i64 c.kind, .slice kA kn kc, .int .u32 c.fl, .int .i64 c.ex, .string c.body, .bool c.quiet, .string c.reply] 28)))
  have HV1 := Lib.hid (keys_below hkv (below_alloc (Below.refl _ _) (.cells #[.int .i64 c.kind, .slice kA kn kc, .int .u32 c.fl, .int .i64 c.ex, .string c.body, .bool c.quiet, .string c.reply] 28)))
  have HY1 := Lib.hid (at_alloc (o := .cells #[.int .i64 c.kind, .slice kA kn kc, .int .u32 c.fl, .int .i64 c.ex, .string c.body, .bool c.quiet, .string c.reply] 28) (at_below HY.out hb1))
  have HT1 := Lib.hid (turn_below (turn_below HT.out hb1) (below_alloc (Below.refl _ _) (.cells #[.int .i64 c.kind, .slice kA kn kc, .int .u32 c.fl, .int .i64 c.ex, .string c.body, .bool c.quiet, .string c.reply] 28)))
  clear HA HR1 HK HY HT hkv hb1 HP hcv c1 hg x0 x1 y0 y1 y2 y3
  generalize w1.alloc (.cells #[.int .i64 c.kind, .slice kA kn kc, .int .u32 c.fl, .int .i64 c.ex, .string c.body, .bool c.quiet, .string c.reply] 28) = w2 at *
  generalize hz : w1.heap.size = z at *
  have hbz : z ≠ b := by omega
  have hby : w.heap.size ≠ b := by omega
  have hyz : w.heap.size ≠ z := by omega
  have hwz : w.heap.size ≤ z := by omega
  clear hz hz1
  have c1 : w2.cell? ⟨b, 1, none⟩ = some (.slice (some ⟨g0, 0, none⟩) n0 c0) := HA1.out.cell 1
  have f1 := HA1.out.free 1
  go_upto_region 14 with (fail)
  have kb : Chg (fun i => i = b) w2 (w2.setCell ⟨b, 1, none⟩ (.slice (some ⟨g0, 0, none⟩) 0 c0)) := chg_set (chg_refl _ _) rfl
  have HA3 := Lib.hid (show At (w2.setCell ⟨b, 1, none⟩ (.slice (some ⟨g0, 0, none⟩) 0 c0)) b (feedA b { s with held := [] } (.slice (some ⟨g0, 0, none⟩) 0 c0) kv) 42 from at_set' HA1.out rfl)
  have HR3 := Lib.hid (Kd.R_mono (Kd.R_step (Kd.R_tight rfl (R_cut0 HR2.out HN0.out)) (fun j hj hlt => kb.block j hlt (fun e => own_ne HA1.out HR2.out (by rw [← cut0_own (some ⟨g0, 0, none⟩) n0 c0, ← e]; exact hj)))) (fun _ _ => trivial))
  have HK3 := Lib.hid (keys_res HK1.out HA1.out (by decide) kb)
  have HV3 := Lib.hid (keys_res HV1.out HA1.out (by decide) kb)
  have HY3 := Lib.hid (show At (w2.setCell ⟨b, 1, none⟩ (.slice (some ⟨g0, 0, none⟩) 0 c0)) w.heap.size Z7 28 from (kb.block _ HY1.out.lt hby).trans HY1.out)
  have HZ3 := Lib.hid (show At (w2.setCell ⟨b, 1, none⟩ (.slice (some ⟨g0, 0, none⟩) 0 c0)) z #[.int .i64 c.kind, .slice kA kn kc, .int .u32 c.fl, .int .i64 c.ex, .string c.body, .bool c.quiet, .string c.reply] 28 from (kb.block _ HZ1.out.lt hbz).trans HZ1.out)
  have HT3 := Lib.hid (turn_set (i := 1) (v := .slice (some ⟨g0, 0, none⟩) 0 c0) HT1.out)
  clear kb HA1 HR2 HK1 HV1 HY1 HZ1 HT1 c1 f1
  generalize w2.setCell ⟨b, 1, none⟩ (.slice (some ⟨g0, 0, none⟩) 0 c0) = w3 at *
  have hd0 : decide ((0 : Int) ≤ d) = false := decide_eq_false (by omega)
  obtain ⟨t0, t1, t2, t3, t4, t5, t6, -⟩ := at7 HZ3.out
  have e12 : w3.cell? ⟨b, 12, none⟩ = some (.bool s.over) := HA3.out.cell 12
  have f12 := HA3.out.free 12
  go_upto_region 21 with (fail)
  have kb : Chg (fun i => i = b) w3 (w3.setCell ⟨b, 12, none⟩ (.bool (c.kind == 7))) := chg_set (chg_refl _ _) rfl
  have HF9 := Lib.hid (feed_upd (s' := { s with held := [], over := c.kind == 7 }) HA3.out HR3.out HK3.out kb (at_set' HA3.out rfl) rfl rfl)
  have HV9 := Lib.hid (keys_res HV3.out HA3.out (by decide) kb)
  have HY9 := Lib.hid (show At (w3.setCell ⟨b, 12, none⟩ (.bool (c.kind == 7))) w.heap.size Z7 28 from (kb.block _ HY3.out.lt hby).trans HY3.out)
  have HZ9 := Lib.hid (show At (w3.setCell ⟨b, 12, none⟩ (.bool (c.kind == 7))) z #[.int .i64 c.kind, .slice kA kn kc, .int .u32 c.fl, .int .i64 c.ex, .string c.body, .bool c.quiet, .string c.reply] 28 from (kb.block _ HZ3.out.lt hbz).trans HZ3.out)
  have HT9 := Lib.hid (turn_set (i := 12) (v := .bool (c.kind == 7)) HT3.out)
  clear kb HA3 HR3 HK3 HV3 HY3 HZ3 HT3 e12 f12 t0 t1 t2 t3 t4 t5 t6
  generalize w3.setCell ⟨b, 12, none⟩ (.bool (c.kind == 7)) = w9 at *
  obtain ⟨t0, t1, t2, t3, t4, t5, t6, -⟩ := at7 HZ9.out
  obtain ⟨q0, q1, q2, q3, q4, q5, q6, r0, r1, r2, r3, r4, r5, r6⟩ := at7 (show At w9 w.heap.size #[.int .i64 0, .slice none 0 0, .int .u32 0, .int .i64 0, .string ⟨#[]⟩, .bool false, .string ⟨#[]⟩] 28 from HY9.out)
  go_wp2_with (fail)
  refine bodyPost_ret (results_ct (p := 4) (u := 5) (ty := 28) (fn := Tryd.f14) ?h0 _ _ w.heap.size 28 #[.int .i64 c.kind, .slice kA kn kc, .int .u32 c.fl, .int .i64 c.ex, .string c.body, .bool c.quiet, .string c.reply] (0, 0) _ ?h1 ?h2 Tryd.underlying28 rfl (by kernel_rfl)) ?h3 ?h4
  case h0 => rfl
  case h1 => rfl
  case h2 => exact at_put7 HY9.out
  case h3 => rfl
  case h4 => exact ⟨.slice (some ⟨g0, 0, none⟩) 0 c0, .slice kA kn kc, rfl, keys_res HV9.out HY9.out (by decide) (chg_set7 (chg_refl _ _)), feed_res HF9.out HY9.out (chg_set7 (chg_refl _ _)), turn_new7 HT9.out (Nat.le_refl _), .inl (cut0_own (some ⟨g0, 0, none⟩) n0 c0)⟩
end Go.Proofs.YthinmioognadpaaDoor.Feed

/- line: a line is at its end (own text; written by wip/tools/gen_feednl.py). -/
namespace Go.Proofs.YthinmioognadpaaDoor.Feed
open Go.RowKit Go.Proofs.YthinmioognadpaaDoor.Mem Go.Proofs.YthinmioognadpaaDoorW.PrintWords Go.Proofs.YthinmioognadpaaDoorW.PrintLast Go.Proofs.YthinmioognadpaaDoorW.PrintMore
set_option linter.unusedVariables false
set_option linter.unusedSimpArgs false
set_option maxRecDepth 100000 in
set_option maxHeartbeats 3200000 in
theorem nl_Pe (b : Nat) (s : St) (hv : Value) (c : Cm) (d : Int) (w : World) (h : FeedAt w b s hv) (hl : s.held.length ≤ 100000) (hp : ParseIs s.held c d) (hq : s.held.length = 0) (hd : 0 < d) :
    Calls Tryd.prog 14 #[.pointer (some ⟨b, 0, none⟩), .int .u8 10] w (StepsTo b hv w { s with held := [], c := c, left := d, tail := 0, cr := false, mode := 2 } c (c.kind == 8)) := by
  obtain ⟨kv, ha, hr, hk⟩ := h
  have HL := Lib.hid hl
  obtain ⟨A0, c0, ev⟩ := Kd.R_slice hr
  obtain ⟨n0, hn0⟩ : ∃ n, n = s.held.length := ⟨_, rfl⟩
  rw [← hn0] at ev
  have HN0 := Lib.hid hn0
  clear hn0
  subst ev
  go_enter Tryd.func14, Tryd.ntmps14
  go_upto_region 1 with (fail)
  have HA := Lib.hid (at_alloc (o := .cells Z7 28) ha)
  have HR1 := Lib.hid (Kd.R_alloc hr (.cells Z7 28))
  have HK := Lib.hid (keys_below hk (below_alloc (Below.refl _ _) (.cells Z7 28)))
  have HY := Lib.hid (at_new w Z7 28)
  have HT := Lib.hid (turn_below (turn_refl b (.slice A0 n0 c0) w) (below_alloc (Below.refl _ _) (.cells Z7 28)))
  have hsz : w.heap.size < (w.alloc (.cells Z7 28)).heap.size := by rw [World.size_alloc]; omega
  have hb := ha.lt
  clear ha hr hk hl
  unfold Z7 at HA HR1 HK HY HT hsz
  generalize w.alloc (.cells #[.int .i64 0, .slice none 0 0, .int .u32 0, .int .i64 0, .string ⟨#[]⟩, .bool false, .string ⟨#[]⟩] 28) = w0 at *
  replace HY : Hid (At w0 w.heap.size Z7 28) := HY
  have c1 : w0.cell? ⟨b, 1, none⟩ = some (.slice A0 n0 c0) := HA.out.cell 1
  obtain rfl : n0 = 0 := by have := HN0.out; omega
  have hcv := held_string HR1.out HN0.out
  rw [← lineL_nil s.held hq] at hcv
  clear hq
  obtain ⟨TX, hTX⟩ : ∃ t, t = strOfNums (lineL s.held) := ⟨_, rfl⟩
  unfold ParseIs at hp
  rw [← hTX] at hcv hp
  unfold cmV at hp
  have HP := Lib.hid hp
  clear hp hTX
  go_upto_region 12 with (fail)
  go_upto_region 13 with ((with_reducible refine (HP.out _).mono ?_); rintro e w1 ⟨v, rfl, hkv, hb1⟩; obtain ⟨kA, kc, ek, -⟩ := Kd.Q_slice hkv; obtain ⟨kn, hkn⟩ : ∃ n, n = c.keys.length := ⟨_, rfl⟩; rw [← hkn] at ek; clear hkn; subst ek)
  have hz1 := hb1.size
  have hbw := HA.out.lt
  have hyw := HY.out.lt
  have HZ1 := Lib.hid (at_new w1 #[.int .i64 c.kind, .slice kA kn kc, .int .u32 c.fl, .int .i64 c.ex, .string c.body, .bool c.quiet, .string c.reply] 28)
  have HA1 := Lib.hid (at_alloc (o := .cells #[.int .i64 c.kind, .slice kA kn kc, .int .u32 c.fl, .int .i64 c.ex, .string c.body, .bool c.quiet, .string c.reply] 28) (at_below HA.out hb1))
  have HR2 := Lib.hid (Kd.R_alloc (Kd.R_below HR1.out hb1) (.cells #[.int .i64 c.kind, .slice kA kn kc, .int .u32 c.fl, .int .i64 c.ex, .string c.body, .bool c.quiet, .string c.reply] 28))
  have HK1 := Lib.hid (keys_below (keys_below HK.out hb1) (below_alloc (Below.refl _ _) (.cells #[.int .i64 c.kind, .slice kA kn kc, .int .u32 c.fl, .int .i64 c.ex, .string c.body, .bool c.quiet, .string c.reply] 28)))
  have HV1 := Lib.hid (keys_below hkv (below_alloc (Below.refl _ _) (.cells #[.int .i64 c.kind, .slice kA kn kc, .int .u32 c.fl, .int .i64 c.ex, .string c.body, .bool c.quiet, .string c.reply] 28)))
  have HY1 := Lib.hid (at_alloc (o := .cells #[.int .i64 c.kind, .slice kA kn kc, .int .u32 c.fl, .int .i64 c.ex, .string c.body, .bool c.quiet, .string c.reply] 28) (at_below HY.out hb1))
  have HT1 := Lib.hid (turn_below (turn_below HT.out hb1) (below_alloc (Below.refl _ _) (.cells #[.int .i64 c.kind, .slice kA kn kc, .int .u32 c.fl, .int .i64 c.ex, .string c.body, .bool c.quiet, .string c.reply] 28)))
  clear HA HR1 HK HY HT hkv hb1 HP hcv c1
  generalize w1.alloc (.cells #[.int .i64 c.kind, .slice kA kn kc, .int .u32 c.fl, .int .i64 c.ex, .string c.body, .bool c.quiet, .string c.reply] 28) = w2 at *
  generalize hz : w1.heap.size = z at *
  have hbz : z ≠ b := by omega
  have hby : w.heap.size ≠ b := by omega
  have hyz : w.heap.size ≠ z := by omega
  have hwz : w.heap.size ≤ z := by omega
  clear hz hz1
  have c1 : w2.cell? ⟨b, 1, none⟩ = some (.slice A0 0 c0) := HA1.out.cell 1
  have f1 := HA1.out.free 1
  go_upto_region 14 with (fail)
  have kb : Chg (fun i => i = b) w2 (w2.setCell ⟨b, 1, none⟩ (.slice A0 0 c0)) := chg_set (chg_refl _ _) rfl
  have HA3 := Lib.hid (show At (w2.setCell ⟨b, 1, none⟩ (.slice A0 0 c0)) b (feedA b { s with held := [] } (.slice A0 0 c0) kv) 42 from at_set' HA1.out rfl)
  have HR3 := Lib.hid (Kd.R_mono (Kd.R_step (Kd.R_tight rfl (R_cut0 HR2.out HN0.out)) (fun j hj hlt => kb.block j hlt (fun e => own_ne HA1.out HR2.out (by rw [← cut0_own A0 0 c0, ← e]; exact hj)))) (fun _ _ => trivial))
  have HK3 := Lib.hid (keys_res HK1.out HA1.out (by decide) kb)
  have HV3 := Lib.hid (keys_res HV1.out HA1.out (by decide) kb)
  have HY3 := Lib.hid (show At (w2.setCell ⟨b, 1, none⟩ (.slice A0 0 c0)) w.heap.size Z7 28 from (kb.block _ HY1.out.lt hby).trans HY1.out)
  have HZ3 := Lib.hid (show At (w2.setCell ⟨b, 1, none⟩ (.slice A0 0 c0)) z #[.int .i64 c.kind, .slice kA kn kc, .int .u32 c.fl, .int .i64 c.ex, .string c.body, .bool c.quiet, .string c.reply] 28 from (kb.block _ HZ1.out.lt hbz).trans HZ1.out)
  have HT3 := Lib.hid (turn_set (i := 1) (v := .slice A0 0 c0) HT1.out)
  clear kb HA1 HR2 HK1 HV1 HY1 HZ1 HT1 c1 f1
  generalize w2.setCell ⟨b, 1, none⟩ (.slice A0 0 c0) = w3 at *
  have hd0 : decide ((0 : Int) ≤ d) = true := decide_eq_true (by omega)
  have hdz : (d == 0) = false := beq_eq_false_iff_ne.2 (by omega)
  obtain ⟨t0, t1, t2, t3, t4, t5, t6, -⟩ := at7 HZ3.out
  have e2 : w3.cell? ⟨b, 2, none⟩ = some (.int .i64 s.c.kind) := HA3.out.cell 2
  have e3 : w3.cell? ⟨b, 3, none⟩ = some (kv) := HA3.out.cell 3
  have e4 : w3.cell? ⟨b, 4, none⟩ = some (.int .u32 s.c.fl) := HA3.out.cell 4
  have e5 : w3.cell? ⟨b, 5, none⟩ = some (.int .i64 s.c.ex) := HA3.out.cell 5
  have e6 : w3.cell? ⟨b, 6, none⟩ = some (.string s.c.body) := HA3.out.cell 6
  have e7 : w3.cell? ⟨b, 7, none⟩ = some (.bool s.c.quiet) := HA3.out.cell 7
  have e8 : w3.cell? ⟨b, 8, none⟩ = some (.string s.c.reply) := HA3.out.cell 8
  have e9 : w3.cell? ⟨b, 9, none⟩ = some (.int .i64 s.left) := HA3.out.cell 9
  have e10 : w3.cell? ⟨b, 10, none⟩ = some (.int .i64 s.tail) := HA3.out.cell 10
  have e11 : w3.cell? ⟨b, 11, none⟩ = some (.bool s.cr) := HA3.out.cell 11
  have f2 := HA3.out.free 2
  have f3 := HA3.out.free 3
  have f4 := HA3.out.free 4
  have f5 := HA3.out.free 5
  have f6 := HA3.out.free 6
  have f7 := HA3.out.free 7
  have f8 := HA3.out.free 8
  have f9 := HA3.out.free 9
  have f10 := HA3.out.free 10
  have f11 := HA3.out.free 11
  go_upto_region 16 with (fail)
  have kb : Chg (fun i => i = b) w3 ((((((((((w3.setCell ⟨b, 2, none⟩ (.int .i64 c.kind)).setCell ⟨b, 3, none⟩ (.slice kA kn kc)).setCell ⟨b, 4, none⟩ (.int .u32 c.fl)).setCell ⟨b, 5, none⟩ (.int .i64 c.ex)).setCell ⟨b, 6, none⟩ (.string c.body)).setCell ⟨b, 7, none⟩ (.bool c.quiet)).setCell ⟨b, 8, none⟩ (.string c.reply)).setCell ⟨b, 9, none⟩ (.int .i64 d)).setCell ⟨b, 10, none⟩ (.int .i64 0)).setCell ⟨b, 11, none⟩ (.bool false)) := chg_load (chg_refl _ _)
  have HA4 := Lib.hid (feed_load (c := c) (d := d) (v := .slice kA kn kc) HA3.out)
  have HR4 := Lib.hid (Kd.R_mono (Kd.R_step (Kd.R_tight rfl HR3.out) (fun j hj hlt => kb.block j hlt (fun e => own_ne HA3.out HR3.out (by rw [← e]; exact hj)))) (fun _ _ => trivial))
  have HV4 := Lib.hid (keys_res HV3.out HA3.out (by decide) kb)
  have HY4 := Lib.hid (show At ((((((((((w3.setCell ⟨b, 2, none⟩ (.int .i64 c.kind)).setCell ⟨b, 3, none⟩ (.slice kA kn kc)).setCell ⟨b, 4, none⟩ (.int .u32 c.fl)).setCell ⟨b, 5, none⟩ (.int .i64 c.ex)).setCell ⟨b, 6, none⟩ (.string c.body)).setCell ⟨b, 7, none⟩ (.bool c.quiet)).setCell ⟨b, 8, none⟩ (.string c.reply)).setCell ⟨b, 9, none⟩ (.int .i64 d)).setCell ⟨b, 10, none⟩ (.int .i64 0)).setCell ⟨b, 11, none⟩ (.bool false)) w.heap.size Z7 28 from (kb.block _ HY3.out.lt hby).trans HY3.out)
  have HZ4 := Lib.hid (show At ((((((((((w3.setCell ⟨b, 2, none⟩ (.int .i64 c.kind)).setCell ⟨b, 3, none⟩ (.slice kA kn kc)).setCell ⟨b, 4, none⟩ (.int .u32 c.fl)).setCell ⟨b, 5, none⟩ (.int .i64 c.ex)).setCell ⟨b, 6, none⟩ (.string c.body)).setCell ⟨b, 7, none⟩ (.bool c.quiet)).setCell ⟨b, 8, none⟩ (.string c.reply)).setCell ⟨b, 9, none⟩ (.int .i64 d)).setCell ⟨b, 10, none⟩ (.int .i64 0)).setCell ⟨b, 11, none⟩ (.bool false)) z #[.int .i64 c.kind, .slice kA kn kc, .int .u32 c.fl, .int .i64 c.ex, .string c.body, .bool c.quiet, .string c.reply] 28 from (kb.block _ HZ3.out.lt hbz).trans HZ3.out)
  have HT4 := Lib.hid (turn_load (c := c) (d := d) (v := .slice kA kn kc) HT3.out)
  clear kb HA3 HR3 HK3 HV3 HY3 HZ3 HT3 t0 t1 t2 t3 t4 t5 t6 e2 f2 e3 f3 e4 f4 e5 f5 e6 f6 e7 f7 e8 f8 e9 f9 e10 f10 e11 f11
  generalize ((((((((((w3.setCell ⟨b, 2, none⟩ (.int .i64 c.kind)).setCell ⟨b, 3, none⟩ (.slice kA kn kc)).setCell ⟨b, 4, none⟩ (.int .u32 c.fl)).setCell ⟨b, 5, none⟩ (.int .i64 c.ex)).setCell ⟨b, 6, none⟩ (.string c.body)).setCell ⟨b, 7, none⟩ (.bool c.quiet)).setCell ⟨b, 8, none⟩ (.string c.reply)).setCell ⟨b, 9, none⟩ (.int .i64 d)).setCell ⟨b, 10, none⟩ (.int .i64 0)).setCell ⟨b, 11, none⟩ (.bool false)) = w4 at *
  have e0 : w4.cell? ⟨b, 0, none⟩ = some (.func (.func (modeF s.mode)) #[.pointer (some ⟨b, 0, none⟩)] #[]) := HA4.out.cell 0
  have f0 := HA4.out.free 0
  go_upto_region 17 with (fail)
  have HA9 := Lib.hid (show At (w4.setCell ⟨b, 0, none⟩ (.func (.func 24) #[.pointer (some ⟨b, 0, none⟩)] #[])) b (feedA b { s with held := [], c := c, left := d, tail := 0, cr := false, mode := 2 } (.slice A0 0 c0) (.slice kA kn kc)) 42 from at_set' HA4.out rfl)
  have kb : Chg (fun i => i = b) w4 (w4.setCell ⟨b, 0, none⟩ (.func (.func 24) #[.pointer (some ⟨b, 0, none⟩)] #[])) := chg_set (chg_refl _ _) rfl
  have HR9 := Lib.hid (Kd.R_mono (Kd.R_step (Kd.R_tight rfl HR4.out) (fun j hj hlt => kb.block j hlt (fun e => own_ne HA4.out HR4.out (by rw [← e]; exact hj)))) (fun _ _ => trivial))
  have HV9 := Lib.hid (keys_res HV4.out HA4.out (by decide) kb)
  have HY9 := Lib.hid (show At (w4.setCell ⟨b, 0, none⟩ (.func (.func 24) #[.pointer (some ⟨b, 0, none⟩)] #[])) w.heap.size Z7 28 from (kb.block _ HY4.out.lt hby).trans HY4.out)
  have HZ9 := Lib.hid (show At (w4.setCell ⟨b, 0, none⟩ (.func (.func 24) #[.pointer (some ⟨b, 0, none⟩)] #[])) z #[.int .i64 c.kind, .slice kA kn kc, .int .u32 c.fl, .int .i64 c.ex, .string c.body, .bool c.quiet, .string c.reply] 28 from (kb.block _ HZ4.out.lt hbz).trans HZ4.out)
  have HT9 := Lib.hid (turn_set (i := 0) (v := (.func (.func 24) #[.pointer (some ⟨b, 0, none⟩)] #[])) HT4.out)
  clear kb HA4 HR4 HV4 HY4 HZ4 HT4 e0 f0
  generalize (w4.setCell ⟨b, 0, none⟩ (.func (.func 24) #[.pointer (some ⟨b, 0, none⟩)] #[])) = w9 at *
  have HF9 := Lib.hid (show FeedAt w9 b { s with held := [], c := c, left := d, tail := 0, cr := false, mode := 2 } (.slice A0 0 c0) from ⟨_, HA9.out, HR9.out, HV9.out⟩)
  go_upto_region 19 with (fail)
  have HZa := Lib.hid (at_drew HZ9.out)
  have HYa := Lib.hid (at_drew HY9.out)
  have HFa := Lib.hid (feed_below HF9.out (below_drew (Below.refl _ _)))
  have HVa := Lib.hid (keys_below HV9.out (below_drew (Below.refl _ _)))
  have HTa := Lib.hid (turn_below HT9.out (below_drew (Below.refl _ _)))
  refine start_ (n := 6) (S := fun w' => w'.cell? ⟨z, 0, none⟩ = some (.int .i64 c.kind) ∧ w'.cell? ⟨z, 1, none⟩ = some (.slice kA kn kc) ∧ w'.cell? ⟨z, 2, none⟩ = some (.int .u32 c.fl) ∧ w'.cell? ⟨z, 3, none⟩ = some (.int .i64 c.ex) ∧ w'.cell? ⟨z, 4, none⟩ = some (.string c.body) ∧ w'.cell? ⟨z, 5, none⟩ = some (.bool c.quiet) ∧ w'.cell? ⟨z, 6, none⟩ = some (.string c.reply)) (ds := []) #[false, false, false, false, false, false] (by kernel_rfl) rfl rfl ⟨(At.cell HZa.out 0).trans rfl, (At.cell HZa.out 1).trans rfl, (At.cell HZa.out 2).trans rfl, (At.cell HZa.out 3).trans rfl, (At.cell HZa.out 4).trans rfl, (At.cell HZa.out 5).trans rfl, (At.cell HZa.out 6).trans rfl⟩ (fun hHeld => ?_)
  generalize w9.drew = wa at HZa HYa HFa HVa HTa hHeld ⊢
  obtain ⟨q0, q1, q2, q3, q4, q5, q6, r0, r1, r2, r3, r4, r5, r6⟩ := at7 (show At wa w.heap.size #[.int .i64 0, .slice none 0 0, .int .u32 0, .int .i64 0, .string ⟨#[]⟩, .bool false, .string ⟨#[]⟩] 28 from HYa.out)
  refine pure_ (i := 1) (N := some 106) (v := ?_) (a' := ?_) #[false, true, false, false, false, false] rfl rfl (by kernel_rfl) (fun _ _ _ h => h) (Or.inl ⟨by rfl, ?_⟩) ?_ ?_
  rotate_left
  · intro w'
    go_simp
    with_reducible rfl
  rotate_left
  · simp only [Act.put, List.setIfInBounds_toArray, List.set_cons_zero, List.set_cons_succ, i64_w, i32_w]
    rfl
  refine take_ (i := 0) (N := some 105) (v := ?_) (a' := ?_) #[true, true, false, false, false, false] rfl rfl (by kernel_rfl) (fun _ _ _ h => h) (Or.inl ⟨by rfl, ?_⟩) hHeld ?_ ?_
  rotate_left
  · rintro w' ⟨s0, s1, s2, s3, s4, s5, s6⟩
    go_simp
    with_reducible rfl
  rotate_left
  · simp only [Act.put, List.setIfInBounds_toArray, List.set_cons_zero, List.set_cons_succ, i64_w, i32_w]
    rfl
  refine take_ (i := 2) (N := some 107) (v := ?_) (a' := ?_) #[true, true, true, false, false, false] rfl rfl (by kernel_rfl) (fun _ _ _ h => h) (Or.inl ⟨by rfl, ?_⟩) hHeld ?_ ?_
  rotate_left
  · rintro w' ⟨s0, s1, s2, s3, s4, s5, s6⟩
    go_simp
    with_reducible rfl
  rotate_left
  · simp only [Act.put, List.setIfInBounds_toArray, List.set_cons_zero, List.set_cons_succ, i64_w, i32_w]
    rfl
  refine pure_ (i := 3) (N := some 108) (v := ?_) (a' := ?_) #[true, true, true, true, false, false] rfl rfl (by kernel_rfl) (fun _ _ _ h => h) (Or.inl ⟨by rfl, ?_⟩) ?_ ?_
  rotate_left
  · intro w'
    go_simp
    with_reducible rfl
  rotate_left
  · simp only [Act.put, List.setIfInBounds_toArray, List.set_cons_zero, List.set_cons_succ, i64_w, i32_w]
    rfl
  refine one_ (i := 4) (N := none) #[true, true, true, true, true, false] rfl rfl (by kernel_rfl) (by decide) (fun K hK => ?_)
  have HZb := Lib.hid (at_ne7 (v0 := .int .i64 c.kind) (v1 := .slice kA kn kc) (v2 := .int .u32 c.fl) (v3 := .int .i64 c.ex) (v4 := .string c.body) (v5 := .bool c.quiet) (v6 := .string c.reply) HZa.out hyz.symm)
  refine skip_ (w1 := ?_) (by rfl) rfl ?_ ?_
  rotate_left
  · go_simp
    rfl
  refine hK.out _ _ ⟨(At.cell HZb.out 0).trans rfl, (At.cell HZb.out 1).trans rfl, (At.cell HZb.out 2).trans rfl, (At.cell HZb.out 3).trans rfl, (At.cell HZb.out 4).trans rfl, (At.cell HZb.out 5).trans rfl, (At.cell HZb.out 6).trans rfl⟩ (fun hHeld => ?_)
  clear hK K
  refine pure_ (i := 5) (N := some 5) (v := ?_) (a' := ?_) #[true, true, true, true, true, true] rfl rfl (by kernel_rfl) (fun _ _ _ h => h) (Or.inl ⟨by rfl, ?_⟩) ?_ ?_
  rotate_left
  · intro w'
    go_simp
    with_reducible rfl
  rotate_left
  · simp only [Act.put, List.setIfInBounds_toArray, List.set_cons_zero, List.set_cons_succ, i64_w, i32_w]
    rfl
  refine done_ (by kernel_rfl) ?_
  clear q0 q1 q2 q3 q4 q5 q6 r0 r1 r2 r3 r4 r5 r6
  go_wp2_with (fail)
  refine bodyPost_ret (results_ct (p := 4) (u := 5) (ty := 28) (fn := Tryd.f14) ?h0 _ _ w.heap.size 28 #[.int .i64 c.kind, .slice kA kn kc, .int .u32 c.fl, .int .i64 c.ex, .string c.body, .bool c.quiet, .string c.reply] (0, 0) _ ?h1 ?h2 Tryd.underlying28 rfl (by kernel_rfl)) ?h3 ?h4
  case h0 => rfl
  case h1 => rfl
  case h2 => exact at_put7 HYa.out
  case h3 => rfl
  case h4 => exact ⟨.slice A0 0 c0, .slice kA kn kc, rfl, keys_res HVa.out HYa.out (by decide) (chg_set7 (chg_refl _ _)), feed_res HFa.out HYa.out (chg_set7 (chg_refl _ _)), turn_new7 HTa.out (Nat.le_refl _), .inl (cut0_own A0 0 c0)⟩
set_option maxRecDepth 100000 in
set_option maxHeartbeats 3200000 in
theorem nl_Pn (b : Nat) (s : St) (hv : Value) (c : Cm) (d : Int) (w : World) (h : FeedAt w b s hv) (hl : s.held.length ≤ 100000) (hp : ParseIs s.held c d) (hq : 0 < s.held.length) (h13 : ¬ s.held.getLast? = some 13) (hd : 0 < d) :
    Calls Tryd.prog 14 #[.pointer (some ⟨b, 0, none⟩), .int .u8 10] w (StepsTo b hv w { s with held := [], c := c, left := d, tail := 0, cr := false, mode := 2 } c (c.kind == 8)) := by
  obtain ⟨kv, ha, hr, hk⟩ := h
  have HL := Lib.hid hl
  obtain ⟨A0, c0, ev⟩ := Kd.R_slice hr
  obtain ⟨n0, hn0⟩ : ∃ n, n = s.held.length := ⟨_, rfl⟩
  rw [← hn0] at ev
  have HN0 := Lib.hid hn0
  clear hn0
  subst ev
  go_enter Tryd.func14, Tryd.ntmps14
  go_upto_region 1 with (fail)
  have HA := Lib.hid (at_alloc (o := .cells Z7 28) ha)
  have HR1 := Lib.hid (Kd.R_alloc hr (.cells Z7 28))
  have HK := Lib.hid (keys_below hk (below_alloc (Below.refl _ _) (.cells Z7 28)))
  have HY := Lib.hid (at_new w Z7 28)
  have HT := Lib.hid (turn_below (turn_refl b (.slice A0 n0 c0) w) (below_alloc (Below.refl _ _) (.cells Z7 28)))
  have hsz : w.heap.size < (w.alloc (.cells Z7 28)).heap.size := by rw [World.size_alloc]; omega
  have hb := ha.lt
  clear ha hr hk hl
  unfold Z7 at HA HR1 HK HY HT hsz
  generalize w.alloc (.cells #[.int .i64 0, .slice none 0 0, .int .u32 0, .int .i64 0, .string ⟨#[]⟩, .bool false, .string ⟨#[]⟩] 28) = w0 at *
  replace HY : Hid (At w0 w.heap.size Z7 28) := HY
  obtain ⟨g0, ev⟩ : ∃ g, A0 = some ⟨g, 0, none⟩ := by
    obtain ⟨g, cap, e, -⟩ := Kd.R_form HR1.out (by omega)
    injection e with e
    exact ⟨g, e⟩
  subst ev
  have c1 : w0.cell? ⟨b, 1, none⟩ = some (.slice (some ⟨g0, 0, none⟩) n0 c0) := HA.out.cell 1
  obtain ⟨y, hy⟩ : ∃ y : Int, y = ((s.held.length - 1 : Nat) : Int) := ⟨_, rfl⟩
  have h7 : (n0 : Int) - 1 = y := by have h8 := HN0.out; omega
  have y1 : (0 : Int) ≤ y := by omega
  have y2 : y < (n0 : Int) := by have := HN0.out; omega
  have y0 : IntKind.i64.wrap ((n0 : Int) - 1) = y := by have h8 := HN0.out; have h9 := HL.out; rw [h7]; exact IntWalk.i64_in y ⟨by omega, by omega⟩
  have y3 : y ≤ (c0 : Int) := by have h8 := (Kd.R_reads' HR1.out).2.1; omega
  have hg : decide ((0 : Int) < (n0 : Int)) = true := decide_eq_true (by omega)
  have hyn : y.toNat + 1 = s.held.length := by omega
  obtain ⟨x0, x1⟩ := Kd.R_celln 0 HR1.out y y1 y2
  have x2 := last_rd s.held hq
  rw [← hy] at x2
  clear h7 hy hq
  have x3 : (rdOf 0 s.held y == 13) = false := beq_eq_false_iff_ne.2 (fun e => h13 (by rw [x2, e]))
  have hcv := held_string HR1.out HN0.out
  rw [← lineL_ne s.held h13] at hcv
  clear x2 hyn h13
  generalize rdOf 0 s.held y = xl at *
  obtain ⟨TX, hTX⟩ : ∃ t, t = strOfNums (lineL s.held) := ⟨_, rfl⟩
  unfold ParseIs at hp
  rw [← hTX] at hcv hp
  unfold cmV at hp
  have HP := Lib.hid hp
  clear hp hTX
  go_upto_region 12 with (fail)
  go_upto_region 13 with ((with_reducible refine (HP.out _).mono ?_); rintro e w1 ⟨v, rfl, hkv, hb1⟩; obtain ⟨kA, kc, ek, -⟩ := Kd.Q_slice hkv; obtain ⟨kn, hkn⟩ : ∃ n, n = c.keys.length := ⟨_, rfl⟩; rw [← hkn] at ek; clear hkn; subst ek)
  have hz1 := hb1.size
  have hbw := HA.out.lt
  have hyw := HY.out.lt
  have HZ1 := Lib.hid (at_new w1 #[.int .i64 c.kind, .slice kA kn kc, .int .u32 c.fl, .int .i64 c.ex, .string c.body, .bool c.quiet, .string c.reply] 28)
  have HA1 := Lib.hid (at_alloc (o := .cells #[.int .i64 c.kind, .slice kA kn kc, .int .u32 c.fl, .int .i64 c.ex, .string c.body, .bool c.quiet, .string c.reply] 28) (at_below HA.out hb1))
  have HR2 := Lib.hid (Kd.R_alloc (Kd.R_below HR1.out hb1) (.cells #[.int .i64 c.kind, .slice kA kn kc, .int .u32 c.fl, .int .i64 c.ex, .string c.body, .bool c.quiet, .string c.reply] 28))
  have HK1 := Lib.hid (keys_below (keys_below HK.out hb1) (below_alloc (Below.refl _ _) (.cells #[.int .i64 c.kind, .slice kA kn kc, .int .u32 c.fl, .int .i64 c.ex, .string c.body, .bool c.quiet, .string c.reply] 28)))
  have HV1 := Lib.hid (keys_below hkv (below_alloc (Below.refl _ _) (.cells #[.int .i64 c.kind, .slice kA kn kc, .int .u32 c.fl, .int .i64 c.ex, .string c.body, .bool c.quiet, .string c.reply] 28)))
  have HY1 := Lib.hid (at_alloc (o := .cells #[.int .i64 c.kind, .slice kA kn kc, .int .u32 c.fl, .int .i64 c.ex, .string c.body, .bool c.quiet, .string c.reply] 28) (at_below HY.out hb1))
  have HT1 := Lib.hid (turn_below (turn_below HT.out hb1) (below_alloc (Below.refl _ _) (.cells #[.int .i64 c.kind, .slice kA kn kc, .int .u32 c.fl, .int .i64 c.ex, .string c.body, .bool c.quiet, .string c.reply] 28)))
  clear HA HR1 HK HY HT hkv hb1 HP hcv c1 hg x0 x1 x3 y0 y1 y2 y3
  generalize w1.alloc (.cells #[.int .i64 c.kind, .slice kA kn kc, .int .u32 c.fl, .int .i64 c.ex, .string c.body, .bool c.quiet, .string c.reply] 28) = w2 at *
  generalize hz : w1.heap.size = z at *
  have hbz : z ≠ b := by omega
  have hby : w.heap.size ≠ b := by omega
  have hyz : w.heap.size ≠ z := by omega
  have hwz : w.heap.size ≤ z := by omega
  clear hz hz1
  have c1 : w2.cell? ⟨b, 1, none⟩ = some (.slice (some ⟨g0, 0, none⟩) n0 c0) := HA1.out.cell 1
  have f1 := HA1.out.free 1
  go_upto_region 14 with (fail)
  have kb : Chg (fun i => i = b) w2 (w2.setCell ⟨b, 1, none⟩ (.slice (some ⟨g0, 0, none⟩) 0 c0)) := chg_set (chg_refl _ _) rfl
  have HA3 := Lib.hid (show At (w2.setCell ⟨b, 1, none⟩ (.slice (some ⟨g0, 0, none⟩) 0 c0)) b (feedA b { s with held := [] } (.slice (some ⟨g0, 0, none⟩) 0 c0) kv) 42 from at_set' HA1.out rfl)
  have HR3 := Lib.hid (Kd.R_mono (Kd.R_step (Kd.R_tight rfl (R_cut0 HR2.out HN0.out)) (fun j hj hlt => kb.block j hlt (fun e => own_ne HA1.out HR2.out (by rw [← cut0_own (some ⟨g0, 0, none⟩) n0 c0, ← e]; exact hj)))) (fun _ _ => trivial))
  have HK3 := Lib.hid (keys_res HK1.out HA1.out (by decide) kb)
  have HV3 := Lib.hid (keys_res HV1.out HA1.out (by decide) kb)
  have HY3 := Lib.hid (show At (w2.setCell ⟨b, 1, none⟩ (.slice (some ⟨g0, 0, none⟩) 0 c0)) w.heap.size Z7 28 from (kb.block _ HY1.out.lt hby).trans HY1.out)
  have HZ3 := Lib.hid (show At (w2.setCell ⟨b, 1, none⟩ (.slice (some ⟨g0, 0, none⟩) 0 c0)) z #[.int .i64 c.kind, .slice kA kn kc, .int .u32 c.fl, .int .i64 c.ex, .string c.body, .bool c.quiet, .string c.reply] 28 from (kb.block _ HZ1.out.lt hbz).trans HZ1.out)
  have HT3 := Lib.hid (turn_set (i := 1) (v := .slice (some ⟨g0, 0, none⟩) 0 c0) HT1.out)
  clear kb HA1 HR2 HK1 HV1 HY1 HZ1 HT1 c1 f1
  generalize w2.setCell ⟨b, 1, none⟩ (.slice (some ⟨g0, 0, none⟩) 0 c0) = w3 at *
  have hd0 : decide ((0 : Int) ≤ d) = true := decide_eq_true (by omega)
  have hdz : (d == 0) = false := beq_eq_false_iff_ne.2 (by omega)
  obtain ⟨t0, t1, t2, t3, t4, t5, t6, -⟩ := at7 HZ3.out
  have e2 : w3.cell? ⟨b, 2, none⟩ = some (.int .i64 s.c.kind) := HA3.out.cell 2
  have e3 : w3.cell? ⟨b, 3, none⟩ = some (kv) := HA3.out.cell 3
  have e4 : w3.cell? ⟨b, 4, none⟩ = some (.int .u32 s.c.fl) := HA3.out.cell 4
  have e5 : w3.cell? ⟨b, 5, none⟩ = some (.int .i64 s.c.ex) := HA3.out.cell 5
  have e6 : w3.cell? ⟨b, 6, none⟩ = some (.string s.c.body) := HA3.out.cell 6
  have e7 : w3.cell? ⟨b, 7, none⟩ = some (.bool s.c.quiet) := HA3.out.cell 7
  have e8 : w3.cell? ⟨b, 8, none⟩ = some (.string s.c.reply) := HA3.out.cell 8
  have e9 : w3.cell? ⟨b, 9, none⟩ = some (.int .i64 s.left) := HA3.out.cell 9
  have e10 : w3.cell? ⟨b, 10, none⟩ = some (.int .i64 s.tail) := HA3.out.cell 10
  have e11 : w3.cell? ⟨b, 11, none⟩ = some (.bool s.cr) := HA3.out.cell 11
  have f2 := HA3.out.free 2
  have f3 := HA3.out.free 3
  have f4 := HA3.out.free 4
  have f5 := HA3.out.free 5
  have f6 := HA3.out.free 6
  have f7 := HA3.out.free 7
  have f8 := HA3.out.free 8
  have f9 := HA3.out.free 9
  have f10 := HA3.out.free 10
  have f11 := HA3.out.free 11
  go_upto_region 16 with (fail)
  have kb : Chg (fun i => i = b) w3 ((((((((((w3.setCell ⟨b, 2, none⟩ (.int .i64 c.kind)).setCell ⟨b, 3, none⟩ (.slice kA kn kc)).setCell ⟨b, 4, none⟩ (.int .u32 c.fl)).setCell ⟨b, 5, none⟩ (.int .i64 c.ex)).setCell ⟨b, 6, none⟩ (.string c.body)).setCell ⟨b, 7, none⟩ (.bool c.quiet)).setCell ⟨b, 8, none⟩ (.string c.reply)).setCell ⟨b, 9, none⟩ (.int .i64 d)).setCell ⟨b, 10, none⟩ (.int .i64 0)).setCell ⟨b, 11, none⟩ (.bool false)) := chg_load (chg_refl _ _)
  have HA4 := Lib.hid (feed_load (c := c) (d := d) (v := .slice kA kn kc) HA3.out)
  have HR4 := Lib.hid (Kd.R_mono (Kd.R_step (Kd.R_tight rfl HR3.out) (fun j hj hlt => kb.block j hlt (fun e => own_ne HA3.out HR3.out (by rw [← e]; exact hj)))) (fun _ _ => trivial))
  have HV4 := Lib.hid (keys_res HV3.out HA3.out (by decide) kb)
  have HY4 := Lib.hid (show At ((((((((((w3.setCell ⟨b, 2, none⟩ (.int .i64 c.kind)).setCell ⟨b, 3, none⟩ (.slice kA kn kc)).setCell ⟨b, 4, none⟩ (.int .u32 c.fl)).setCell ⟨b, 5, none⟩ (.int .i64 c.ex)).setCell ⟨b, 6, none⟩ (.string c.body)).setCell ⟨b, 7, none⟩ (.bool c.quiet)).setCell ⟨b, 8, none⟩ (.string c.reply)).setCell ⟨b, 9, none⟩ (.int .i64 d)).setCell ⟨b, 10, none⟩ (.int .i64 0)).setCell ⟨b, 11, none⟩ (.bool false)) w.heap.size Z7 28 from (kb.block _ HY3.out.lt hby).trans HY3.out)
  have HZ4 := Lib.hid (show At ((((((((((w3.setCell ⟨b, 2, none⟩ (.int .i64 c.kind)).setCell ⟨b, 3, none⟩ (.slice kA kn kc)).setCell ⟨b, 4, none⟩ (.int .u32 c.fl)).setCell ⟨b, 5, none⟩ (.int .i64 c.ex)).setCell ⟨b, 6, none⟩ (.string c.body)).setCell ⟨b, 7, none⟩ (.bool c.quiet)).setCell ⟨b, 8, none⟩ (.string c.reply)).setCell ⟨b, 9, none⟩ (.int .i64 d)).setCell ⟨b, 10, none⟩ (.int .i64 0)).setCell ⟨b, 11, none⟩ (.bool false)) z #[.int .i64 c.kind, .slice kA kn kc, .int .u32 c.fl, .int .i64 c.ex, .string c.body, .bool c.quiet, .string c.reply] 28 from (kb.block _ HZ3.out.lt hbz).trans HZ3.out)
  have HT4 := Lib.hid (turn_load (c := c) (d := d) (v := .slice kA kn kc) HT3.out)
  clear kb HA3 HR3 HK3 HV3 HY3 HZ3 HT3 t0 t1 t2 t3 t4 t5 t6 e2 f2 e3 f3 e4 f4 e5 f5 e6 f6 e7 f7 e8 f8 e9 f9 e10 f10 e11 f11
  generalize ((((((((((w3.setCell ⟨b, 2, none⟩ (.int .i64 c.kind)).setCell ⟨b, 3, none⟩ (.slice kA kn kc)).setCell ⟨b, 4, none⟩ (.int .u32 c.fl)).setCell ⟨b, 5, none⟩ (.int .i64 c.ex)).setCell ⟨b, 6, none⟩ (.string c.body)).setCell ⟨b, 7, none⟩ (.bool c.quiet)).setCell ⟨b, 8, none⟩ (.string c.reply)).setCell ⟨b, 9, none⟩ (.int .i64 d)).setCell ⟨b, 10, none⟩ (.int .i64 0)).setCell ⟨b, 11, none⟩ (.bool false)) = w4 at *
  have e0 : w4.cell? ⟨b, 0, none⟩ = some (.func (.func (modeF s.mode)) #[.pointer (some ⟨b, 0, none⟩)] #[]) := HA4.out.cell 0
  have f0 := HA4.out.free 0
  go_upto_region 17 with (fail)
  have HA9 := Lib.hid (show At (w4.setCell ⟨b, 0, none⟩ (.func (.func 24) #[.pointer (some ⟨b, 0, none⟩)] #[])) b (feedA b { s with held := [], c := c, left := d, tail := 0, cr := false, mode := 2 } (.slice (some ⟨g0, 0, none⟩) 0 c0) (.slice kA kn kc)) 42 from at_set' HA4.out rfl)
  have kb : Chg (fun i => i = b) w4 (w4.setCell ⟨b, 0, none⟩ (.func (.func 24) #[.pointer (some ⟨b, 0, none⟩)] #[])) := chg_set (chg_refl _ _) rfl
  have HR9 := Lib.hid (Kd.R_mono (Kd.R_step (Kd.R_tight rfl HR4.out) (fun j hj hlt => kb.block j hlt (fun e => own_ne HA4.out HR4.out (by rw [← e]; exact hj)))) (fun _ _ => trivial))
  have HV9 := Lib.hid (keys_res HV4.out HA4.out (by decide) kb)
  have HY9 := Lib.hid (show At (w4.setCell ⟨b, 0, none⟩ (.func (.func 24) #[.pointer (some ⟨b, 0, none⟩)] #[])) w.heap.size Z7 28 from (kb.block _ HY4.out.lt hby).trans HY4.out)
  have HZ9 := Lib.hid (show At (w4.setCell ⟨b, 0, none⟩ (.func (.func 24) #[.pointer (some ⟨b, 0, none⟩)] #[])) z #[.int .i64 c.kind, .slice kA kn kc, .int .u32 c.fl, .int .i64 c.ex, .string c.body, .bool c.quiet, .string c.reply] 28 from (kb.block _ HZ4.out.lt hbz).trans HZ4.out)
  have HT9 := Lib.hid (turn_set (i := 0) (v := (.func (.func 24) #[.pointer (some ⟨b, 0, none⟩)] #[])) HT4.out)
  clear kb HA4 HR4 HV4 HY4 HZ4 HT4 e0 f0
  generalize (w4.setCell ⟨b, 0, none⟩ (.func (.func 24) #[.pointer (some ⟨b, 0, none⟩)] #[])) = w9 at *
  have HF9 := Lib.hid (show FeedAt w9 b { s with held := [], c := c, left := d, tail := 0, cr := false, mode := 2 } (.slice (some ⟨g0, 0, none⟩) 0 c0) from ⟨_, HA9.out, HR9.out, HV9.out⟩)
  go_upto_region 19 with (fail)
  have HZa := Lib.hid (at_drew HZ9.out)
  have HYa := Lib.hid (at_drew HY9.out)
  have HFa := Lib.hid (feed_below HF9.out (below_drew (Below.refl _ _)))
  have HVa := Lib.hid (keys_below HV9.out (below_drew (Below.refl _ _)))
  have HTa := Lib.hid (turn_below HT9.out (below_drew (Below.refl _ _)))
  refine start_ (n := 6) (S := fun w' => w'.cell? ⟨z, 0, none⟩ = some (.int .i64 c.kind) ∧ w'.cell? ⟨z, 1, none⟩ = some (.slice kA kn kc) ∧ w'.cell? ⟨z, 2, none⟩ = some (.int .u32 c.fl) ∧ w'.cell? ⟨z, 3, none⟩ = some (.int .i64 c.ex) ∧ w'.cell? ⟨z, 4, none⟩ = some (.string c.body) ∧ w'.cell? ⟨z, 5, none⟩ = some (.bool c.quiet) ∧ w'.cell? ⟨z, 6, none⟩ = some (.string c.reply)) (ds := []) #[false, false, false, false, false, false] (by kernel_rfl) rfl rfl ⟨(At.cell HZa.out 0).trans rfl, (At.cell HZa.out 1).trans rfl, (At.cell HZa.out 2).trans rfl, (At.cell HZa.out 3).trans rfl, (At.cell HZa.out 4).trans rfl, (At.cell HZa.out 5).trans rfl, (At.cell HZa.out 6).trans rfl⟩ (fun hHeld => ?_)
  generalize w9.drew = wa at HZa HYa HFa HVa HTa hHeld ⊢
  obtain ⟨q0, q1, q2, q3, q4, q5, q6, r0, r1, r2, r3, r4, r5, r6⟩ := at7 (show At wa w.heap.size #[.int .i64 0, .slice none 0 0, .int .u32 0, .int .i64 0, .string ⟨#[]⟩, .bool false, .string ⟨#[]⟩] 28 from HYa.out)
  refine pure_ (i := 1) (N := some 106) (v := ?_) (a' := ?_) #[false, true, false, false, false, false] rfl rfl (by kernel_rfl) (fun _ _ _ h => h) (Or.inl ⟨by rfl, ?_⟩) ?_ ?_
  rotate_left
  · intro w'
    go_simp
    with_reducible rfl
  rotate_left
  · simp only [Act.put, List.setIfInBounds_toArray, List.set_cons_zero, List.set_cons_succ, i64_w, i32_w]
    rfl
  refine take_ (i := 0) (N := some 105) (v := ?_) (a' := ?_) #[true, true, false, false, false, false] rfl rfl (by kernel_rfl) (fun _ _ _ h => h) (Or.inl ⟨by rfl, ?_⟩) hHeld ?_ ?_
  rotate_left
  · rintro w' ⟨s0, s1, s2, s3, s4, s5, s6⟩
    go_simp
    with_reducible rfl
  rotate_left
  · simp only [Act.put, List.setIfInBounds_toArray, List.set_cons_zero, List.set_cons_succ, i64_w, i32_w]
    rfl
  refine take_ (i := 2) (N := some 107) (v := ?_) (a' := ?_) #[true, true, true, false, false, false] rfl rfl (by kernel_rfl) (fun _ _ _ h => h) (Or.inl ⟨by rfl, ?_⟩) hHeld ?_ ?_
  rotate_left
  · rintro w' ⟨s0, s1, s2, s3, s4, s5, s6⟩
    go_simp
    with_reducible rfl
  rotate_left
  · simp only [Act.put, List.setIfInBounds_toArray, List.set_cons_zero, List.set_cons_succ, i64_w, i32_w]
    rfl
  refine pure_ (i := 3) (N := some 108) (v := ?_) (a' := ?_) #[true, true, true, true, false, false] rfl rfl (by kernel_rfl) (fun _ _ _ h => h) (Or.inl ⟨by rfl, ?_⟩) ?_ ?_
  rotate_left
  · intro w'
    go_simp
    with_reducible rfl
  rotate_left
  · simp only [Act.put, List.setIfInBounds_toArray, List.set_cons_zero, List.set_cons_succ, i64_w, i32_w]
    rfl
  refine one_ (i := 4) (N := none) #[true, true, true, true, true, false] rfl rfl (by kernel_rfl) (by decide) (fun K hK => ?_)
  have HZb := Lib.hid (at_ne7 (v0 := .int .i64 c.kind) (v1 := .slice kA kn kc) (v2 := .int .u32 c.fl) (v3 := .int .i64 c.ex) (v4 := .string c.body) (v5 := .bool c.quiet) (v6 := .string c.reply) HZa.out hyz.symm)
  refine skip_ (w1 := ?_) (by rfl) rfl ?_ ?_
  rotate_left
  · go_simp
    rfl
  refine hK.out _ _ ⟨(At.cell HZb.out 0).trans rfl, (At.cell HZb.out 1).trans rfl, (At.cell HZb.out 2).trans rfl, (At.cell HZb.out 3).trans rfl, (At.cell HZb.out 4).trans rfl, (At.cell HZb.out 5).trans rfl, (At.cell HZb.out 6).trans rfl⟩ (fun hHeld => ?_)
  clear hK K
  refine pure_ (i := 5) (N := some 5) (v := ?_) (a' := ?_) #[true, true, true, true, true, true] rfl rfl (by kernel_rfl) (fun _ _ _ h => h) (Or.inl ⟨by rfl, ?_⟩) ?_ ?_
  rotate_left
  · intro w'
    go_simp
    with_reducible rfl
  rotate_left
  · simp only [Act.put, List.setIfInBounds_toArray, List.set_cons_zero, List.set_cons_succ, i64_w, i32_w]
    rfl
  refine done_ (by kernel_rfl) ?_
  clear q0 q1 q2 q3 q4 q5 q6 r0 r1 r2 r3 r4 r5 r6
  go_wp2_with (fail)
  refine bodyPost_ret (results_ct (p := 4) (u := 5) (ty := 28) (fn := Tryd.f14) ?h0 _ _ w.heap.size 28 #[.int .i64 c.kind, .slice kA kn kc, .int .u32 c.fl, .int .i64 c.ex, .string c.body, .bool c.quiet, .string c.reply] (0, 0) _ ?h1 ?h2 Tryd.underlying28 rfl (by kernel_rfl)) ?h3 ?h4
  case h0 => rfl
  case h1 => rfl
  case h2 => exact at_put7 HYa.out
  case h3 => rfl
  case h4 => exact ⟨.slice (some ⟨g0, 0, none⟩) 0 c0, .slice kA kn kc, rfl, keys_res HVa.out HYa.out (by decide) (chg_set7 (chg_refl _ _)), feed_res HFa.out HYa.out (chg_set7 (chg_refl _ _)), turn_new7 HTa.out (Nat.le_refl _), .inl (cut0_own (some ⟨g0, 0, none⟩) n0 c0)⟩
set_option maxRecDepth 100000 in
set_option maxHeartbeats 3200000 in
theorem nl_Pr (b : Nat) (s : St) (hv : Value) (c : Cm) (d : Int) (w : World) (h : FeedAt w b s hv) (hl : s.held.length ≤ 100000) (hp : ParseIs s.held c d) (hq : 0 < s.held.length) (h13 : s.held.getLast? = some 13) (hd : 0 < d) :
    Calls Tryd.prog 14 #[.pointer (some ⟨b, 0, none⟩), .int .u8 10] w (StepsTo b hv w { s with held := [], c := c, left := d, tail := 0, cr := false, mode := 2 } c (c.kind == 8)) := by
  obtain ⟨kv, ha, hr, hk⟩ := h
  have HL := Lib.hid hl
  obtain ⟨A0, c0, ev⟩ := Kd.R_slice hr
  obtain ⟨n0, hn0⟩ : ∃ n, n = s.held.length := ⟨_, rfl⟩
  rw [← hn0] at ev
  have HN0 := Lib.hid hn0
  clear hn0
  subst ev
  go_enter Tryd.func14, Tryd.ntmps14
  go_upto_region 1 with (fail)
  have HA := Lib.hid (at_alloc (o := .cells Z7 28) ha)
  have HR1 := Lib.hid (Kd.R_alloc hr (.cells Z7 28))
  have HK := Lib.hid (keys_below hk (below_alloc (Below.refl _ _) (.cells Z7 28)))
  have HY := Lib.hid (at_new w Z7 28)
  have HT := Lib.hid (turn_below (turn_refl b (.slice A0 n0 c0) w) (below_alloc (Below.refl _ _) (.cells Z7 28)))
  have hsz : w.heap.size < (w.alloc (.cells Z7 28)).heap.size := by rw [World.size_alloc]; omega
  have hb := ha.lt
  clear ha hr hk hl
  unfold Z7 at HA HR1 HK HY HT hsz
  generalize w.alloc (.cells #[.int .i64 0, .slice none 0 0, .int .u32 0, .int .i64 0, .string ⟨#[]⟩, .bool false, .string ⟨#[]⟩] 28) = w0 at *
  replace HY : Hid (At w0 w.heap.size Z7 28) := HY
  obtain ⟨g0, ev⟩ : ∃ g, A0 = some ⟨g, 0, none⟩ := by
    obtain ⟨g, cap, e, -⟩ := Kd.R_form HR1.out (by omega)
    injection e with e
    exact ⟨g, e⟩
  subst ev
  have c1 : w0.cell? ⟨b, 1, none⟩ = some (.slice (some ⟨g0, 0, none⟩) n0 c0) := HA.out.cell 1
  obtain ⟨y, hy⟩ : ∃ y : Int, y = ((s.held.length - 1 : Nat) : Int) := ⟨_, rfl⟩
  have h7 : (n0 : Int) - 1 = y := by have h8 := HN0.out; omega
  have y1 : (0 : Int) ≤ y := by omega
  have y2 : y < (n0 : Int) := by have := HN0.out; omega
  have y0 : IntKind.i64.wrap ((n0 : Int) - 1) = y := by have h8 := HN0.out; have h9 := HL.out; rw [h7]; exact IntWalk.i64_in y ⟨by omega, by omega⟩
  have y3 : y ≤ (c0 : Int) := by have h8 := (Kd.R_reads' HR1.out).2.1; omega
  have hg : decide ((0 : Int) < (n0 : Int)) = true := decide_eq_true (by omega)
  have hyn : y.toNat + 1 = s.held.length := by omega
  obtain ⟨x0, x1⟩ := Kd.R_celln 0 HR1.out y y1 y2
  have x2 := last_rd s.held hq
  rw [← hy] at x2
  clear h7 hy hq
  rw [h13] at x2
  injection x2 with x2
  rw [← x2] at x0
  have hcv := held_string (Kd.R_take HR1.out (m := y.toNat) (by omega)) (by rw [List.length_take]; omega)
  rw [← lineL_cut s.held y.toNat hyn h13] at hcv
  clear x2 hyn h13
  obtain ⟨TX, hTX⟩ : ∃ t, t = strOfNums (lineL s.held) := ⟨_, rfl⟩
  unfold ParseIs at hp
  rw [← hTX] at hcv hp
  unfold cmV at hp
  have HP := Lib.hid hp
  clear hp hTX
  go_upto_region 12 with (fail)
  go_upto_region 13 with ((with_reducible refine (HP.out _).mono ?_); rintro e w1 ⟨v, rfl, hkv, hb1⟩; obtain ⟨kA, kc, ek, -⟩ := Kd.Q_slice hkv; obtain ⟨kn, hkn⟩ : ∃ n, n = c.keys.length := ⟨_, rfl⟩; rw [← hkn] at ek; clear hkn; subst ek)
  have hz1 := hb1.size
  have hbw := HA.out.lt
  have hyw := HY.out.lt
  have HZ1 := Lib.hid (at_new w1 #[.int .i64 c.kind, .slice kA kn kc, .int .u32 c.fl, .int .i64 c.ex, .string c.body, .bool c.quiet, .string c.reply] 28)
  have HA1 := Lib.hid (at_alloc (o := .cells #[.int .i64 c.kind, .slice kA kn kc, .int .u32 c.fl, .int .i64 c.ex, .string c.body, .bool c.quiet, .string c.reply] 28) (at_below HA.out hb1))
  have HR2 := Lib.hid (Kd.R_alloc (Kd.R_below HR1.out hb1) (.cells #[.int .i64 c.kind, .slice kA kn kc, .int .u32 c.fl, .int .i64 c.ex, .string c.body, .bool c.quiet, .string c.reply] 28))
  have HK1 := Lib.hid (keys_below (keys_below HK.out hb1) (below_alloc (Below.refl _ _) (.cells #[.int .i64 c.kind, .slice kA kn kc, .int .u32 c.fl, .int .i64 c.ex, .string c.body, .bool c.quiet, .string c.reply] 28)))
  have HV1 := Lib.hid (keys_below hkv (below_alloc (Below.refl _ _) (.cells #[.int .i64 c.kind, .slice kA kn kc, .int .u32 c.fl, .int .i64 c.ex, .string c.body, .bool c.quiet, .string c.reply] 28)))
  have HY1 := Lib.hid (at_alloc (o := .cells #[.int .i64 c.kind, .slice kA kn kc, .int .u32 c.fl, .int .i64 c.ex, .string c.body, .bool c.quiet, .string c.reply] 28) (at_below HY.out hb1))
  have HT1 := Lib.hid (turn_below (turn_below HT.out hb1) (below_alloc (Below.refl _ _) (.cells #[.int .i64 c.kind, .slice kA kn kc, .int .u32 c.fl, .int .i64 c.ex, .string c.body, .bool c.quiet, .string c.reply] 28)))
  clear HA HR1 HK HY HT hkv hb1 HP hcv c1 hg x0 x1 y0 y1 y2 y3
  generalize w1.alloc (.cells #[.int .i64 c.kind, .slice kA kn kc, .int .u32 c.fl, .int .i64 c.ex, .string c.body, .bool c.quiet, .string c.reply] 28) = w2 at *
  generalize hz : w1.heap.size = z at *
  have hbz : z ≠ b := by omega
  have hby : w.heap.size ≠ b := by omega
  have hyz : w.heap.size ≠ z := by omega
  have hwz : w.heap.size ≤ z := by omega
  clear hz hz1
  have c1 : w2.cell? ⟨b, 1, none⟩ = some (.slice (some ⟨g0, 0, none⟩) n0 c0) := HA1.out.cell 1
  have f1 := HA1.out.free 1
  go_upto_region 14 with (fail)
  have kb : Chg (fun i => i = b) w2 (w2.setCell ⟨b, 1, none⟩ (.slice (some ⟨g0, 0, none⟩) 0 c0)) := chg_set (chg_refl _ _) rfl
  have HA3 := Lib.hid (show At (w2.setCell ⟨b, 1, none⟩ (.slice (some ⟨g0, 0, none⟩) 0 c0)) b (feedA b { s with held := [] } (.slice (some ⟨g0, 0, none⟩) 0 c0) kv) 42 from at_set' HA1.out rfl)
  have HR3 := Lib.hid (Kd.R_mono (Kd.R_step (Kd.R_tight rfl (R_cut0 HR2.out HN0.out)) (fun j hj hlt => kb.block j hlt (fun e => own_ne HA1.out HR2.out (by rw [← cut0_own (some ⟨g0, 0, none⟩) n0 c0, ← e]; exact hj)))) (fun _ _ => trivial))
  have HK3 := Lib.hid (keys_res HK1.out HA1.out (by decide) kb)
  have HV3 := Lib.hid (keys_res HV1.out HA1.out (by decide) kb)
  have HY3 := Lib.hid (show At (w2.setCell ⟨b, 1, none⟩ (.slice (some ⟨g0, 0, none⟩) 0 c0)) w.heap.size Z7 28 from (kb.block _ HY1.out.lt hby).trans HY1.out)
  have HZ3 := Lib.hid (show At (w2.setCell ⟨b, 1, none⟩ (.slice (some ⟨g0, 0, none⟩) 0 c0)) z #[.int .i64 c.kind, .slice kA kn kc, .int .u32 c.fl, .int .i64 c.ex, .string c.body, .bool c.quiet, .string c.reply] 28 from (kb.block _ HZ1.out.lt hbz).trans HZ1.out)
  have HT3 := Lib.hid (turn_set (i := 1) (v := .slice (some ⟨g0, 0, none⟩) 0 c0) HT1.out)
  clear kb HA1 HR2 HK1 HV1 HY1 HZ1 HT1 c1 f1
  generalize w2.setCell ⟨b, 1, none⟩ (.slice (some ⟨g0, 0, none⟩) 0 c0) = w3 at *
  have hd0 : decide ((0 : Int) ≤ d) = true := decide_eq_true (by omega)
  have hdz : (d == 0) = false := beq_eq_false_iff_ne.2 (by omega)
  obtain ⟨t0, t1, t2, t3, t4, t5, t6, -⟩ := at7 HZ3.out
  have e2 : w3.cell? ⟨b, 2, none⟩ = some (.int .i64 s.c.kind) := HA3.out.cell 2
  have e3 : w3.cell? ⟨b, 3, none⟩ = some (kv) := HA3.out.cell 3
  have e4 : w3.cell? ⟨b, 4, none⟩ = some (.int .u32 s.c.fl) := HA3.out.cell 4
  have e5 : w3.cell? ⟨b, 5, none⟩ = some (.int .i64 s.c.ex) := HA3.out.cell 5
  have e6 : w3.cell? ⟨b, 6, none⟩ = some (.string s.c.body) := HA3.out.cell 6
  have e7 : w3.cell? ⟨b, 7, none⟩ = some (.bool s.c.quiet) := HA3.out.cell 7
  have e8 : w3.cell? ⟨b, 8, none⟩ = some (.string s.c.reply) := HA3.out.cell 8
  have e9 : w3.cell? ⟨b, 9, none⟩ = some (.int .i64 s.left) := HA3.out.cell 9
  have e10 : w3.cell? ⟨b, 10, none⟩ = some (.int .i64 s.tail) := HA3.out.cell 10
  have e11 : w3.cell? ⟨b, 11, none⟩ = some (.bool s.cr) := HA3.out.cell 11
  have f2 := HA3.out.free 2
  have f3 := HA3.out.free 3
  have f4 := HA3.out.free 4
  have f5 := HA3.out.free 5
  have f6 := HA3.out.free 6
  have f7 := HA3.out.free 7
  have f8 := HA3.out.free 8
  have f9 := HA3.out.free 9
  have f10 := HA3.out.free 10
  have f11 := HA3.out.free 11
  go_upto_region 16 with (fail)
  have kb : Chg (fun i => i = b) w3 ((((((((((w3.setCell ⟨b, 2, none⟩ (.int .i64 c.kind)).setCell ⟨b, 3, none⟩ (.slice kA kn kc)).setCell ⟨b, 4, none⟩ (.int .u32 c.fl)).setCell ⟨b, 5, none⟩ (.int .i64 c.ex)).setCell ⟨b, 6, none⟩ (.string c.body)).setCell ⟨b, 7, none⟩ (.bool c.quiet)).setCell ⟨b, 8, none⟩ (.string c.reply)).setCell ⟨b, 9, none⟩ (.int .i64 d)).setCell ⟨b, 10, none⟩ (.int .i64 0)).setCell ⟨b, 11, none⟩ (.bool false)) := chg_load (chg_refl _ _)
  have HA4 := Lib.hid (feed_load (c := c) (d := d) (v := .slice kA kn kc) HA3.out)
  have HR4 := Lib.hid (Kd.R_mono (Kd.R_step (Kd.R_tight rfl HR3.out) (fun j hj hlt => kb.block j hlt (fun e => own_ne HA3.out HR3.out (by rw [← e]; exact hj)))) (fun _ _ => trivial))
  have HV4 := Lib.hid (keys_res HV3.out HA3.out (by decide) kb)
  have HY4 := Lib.hid (show At ((((((((((w3.setCell ⟨b, 2, none⟩ (.int .i64 c.kind)).setCell ⟨b, 3, none⟩ (.slice kA kn kc)).setCell ⟨b, 4, none⟩ (.int .u32 c.fl)).setCell ⟨b, 5, none⟩ (.int .i64 c.ex)).setCell ⟨b, 6, none⟩ (.string c.body)).setCell ⟨b, 7, none⟩ (.bool c.quiet)).setCell ⟨b, 8, none⟩ (.string c.reply)).setCell ⟨b, 9, none⟩ (.int .i64 d)).setCell ⟨b, 10, none⟩ (.int .i64 0)).setCell ⟨b, 11, none⟩ (.bool false)) w.heap.size Z7 28 from (kb.block _ HY3.out.lt hby).trans HY3.out)
  have HZ4 := Lib.hid (show At ((((((((((w3.setCell ⟨b, 2, none⟩ (.int .i64 c.kind)).setCell ⟨b, 3, none⟩ (.slice kA kn kc)).setCell ⟨b, 4, none⟩ (.int .u32 c.fl)).setCell ⟨b, 5, none⟩ (.int .i64 c.ex)).setCell ⟨b, 6, none⟩ (.string c.body)).setCell ⟨b, 7, none⟩ (.bool c.quiet)).setCell ⟨b, 8, none⟩ (.string c.reply)).setCell ⟨b, 9, none⟩ (.int .i64 d)).setCell ⟨b, 10, none⟩ (.int .i64 0)).setCell ⟨b, 11, none⟩ (.bool false)) z #[.int .i64 c.kind, .slice kA kn kc, .int .u32 c.fl, .int .i64 c.ex, .string c.body, .bool c.quiet, .string c.reply] 28 from (kb.block _ HZ3.out.lt hbz).trans HZ3.out)
  have HT4 := Lib.hid (turn_load (c := c) (d := d) (v := .slice kA kn kc) HT3.out)
  clear kb HA3 HR3 HK3 HV3 HY3 HZ3 HT3 t0 t1 t2 t3 t4 t5 t6 e2 f2 e3 f3 e4 f4 e5 f5 e6 f6 e7 f7 e8 f8 e9 f9 e10 f10 e11 f11
  generalize ((((((((((w3.setCell ⟨b, 2, none⟩ (.int .i64 c.kind)).setCell ⟨b, 3, none⟩ (.slice kA kn kc)).setCell ⟨b, 4, none⟩ (.int .u32 c.fl)).setCell ⟨b, 5, none⟩ (.int .i64 c.ex)).setCell ⟨b, 6, none⟩ (.string c.body)).setCell ⟨b, 7, none⟩ (.bool c.quiet)).setCell ⟨b, 8, none⟩ (.string c.reply)).setCell ⟨b, 9, none⟩ (.int .i64 d)).setCell ⟨b, 10, none⟩ (.int .i64 0)).setCell ⟨b, 11, none⟩ (.bool false)) = w4 at *
  have e0 : w4.cell? ⟨b, 0, none⟩ = some (.func (.func (modeF s.mode)) #[.pointer (some ⟨b, 0, none⟩)] #[]) := HA4.out.cell 0
  have f0 := HA4.out.free 0
  go_upto_region 17 with (fail)
  have HA9 := Lib.hid (show At (w4.setCell ⟨b, 0, none⟩ (.func (.func 24) #[.pointer (some ⟨b, 0, none⟩)] #[])) b (feedA b { s with held := [], c := c, left := d, tail := 0, cr := false, mode := 2 } (.slice (some ⟨g0, 0, none⟩) 0 c0) (.slice kA kn kc)) 42 from at_set' HA4.out rfl)
  have kb : Chg (fun i => i = b) w4 (w4.setCell ⟨b, 0, none⟩ (.func (.func 24) #[.pointer (some ⟨b, 0, none⟩)] #[])) := chg_set (chg_refl _ _) rfl
  have HR9 := Lib.hid (Kd.R_mono (Kd.R_step (Kd.R_tight rfl HR4.out) (fun j hj hlt => kb.block j hlt (fun e => own_ne HA4.out HR4.out (by rw [← e]; exact hj)))) (fun _ _ => trivial))
  have HV9 := Lib.hid (keys_res HV4.out HA4.out (by decide) kb)
  have HY9 := Lib.hid (show At (w4.setCell ⟨b, 0, none⟩ (.func (.func 24) #[.pointer (some ⟨b, 0, none⟩)] #[])) w.heap.size Z7 28 from (kb.block _ HY4.out.lt hby).trans HY4.out)
  have HZ9 := Lib.hid (show At (w4.setCell ⟨b, 0, none⟩ (.func (.func 24) #[.pointer (some ⟨b, 0, none⟩)] #[])) z #[.int .i64 c.kind, .slice kA kn kc, .int .u32 c.fl, .int .i64 c.ex, .string c.body, .bool c.quiet, .string c.reply] 28 from (kb.block _ HZ4.out.lt hbz).trans HZ4.out)
  have HT9 := Lib.hid (turn_set (i := 0) (v := (.func (.func 24) #[.pointer (some ⟨b, 0, none⟩)] #[])) HT4.out)
  clear kb HA4 HR4 HV4 HY4 HZ4 HT4 e0 f0
  generalize (w4.setCell ⟨b, 0, none⟩ (.func (.func 24) #[.pointer (some ⟨b, 0, none⟩)] #[])) = w9 at *
  have HF9 := Lib.hid (show FeedAt w9 b { s with held := [], c := c, left := d, tail := 0, cr := false, mode := 2 } (.slice (some ⟨g0, 0, none⟩) 0 c0) from ⟨_, HA9.out, HR9.out, HV9.out⟩)
  go_upto_region 19 with (fail)
  have HZa := Lib.hid (at_drew HZ9.out)
  have HYa := Lib.hid (at_drew HY9.out)
  have HFa := Lib.hid (feed_below HF9.out (below_drew (Below.refl _ _)))
  have HVa := Lib.hid (keys_below HV9.out (below_drew (Below.refl _ _)))
  have HTa := Lib.hid (turn_below HT9.out (below_drew (Below.refl _ _)))
  refine start_ (n := 6) (S := fun w' => w'.cell? ⟨z, 0, none⟩ = some (.int .i64 c.kind) ∧ w'.cell? ⟨z, 1, none⟩ = some (.slice kA kn kc) ∧ w'.cell? ⟨z, 2, none⟩ = some (.int .u32 c.fl) ∧ w'.cell? ⟨z, 3, none⟩ = some (.int .i64 c.ex) ∧ w'.cell? ⟨z, 4, none⟩ = some (.string c.body) ∧ w'.cell? ⟨z, 5, none⟩ = some (.bool c.quiet) ∧ w'.cell? ⟨z, 6, none⟩ = some (.string c.reply)) (ds := []) #[false, false, false, false, false, false] (by kernel_rfl) rfl rfl ⟨(At.cell HZa.out 0).trans rfl, (At.cell HZa.out 1).trans rfl, (At.cell HZa.out 2).trans rfl, (At.cell HZa.out 3).trans rfl, (At.cell HZa.out 4).trans rfl, (At.cell HZa.out 5).trans rfl, (At.cell HZa.out 6).trans rfl⟩ (fun hHeld => ?_)
  generalize w9.drew = wa at HZa HYa HFa HVa HTa hHeld ⊢
  obtain ⟨q0, q1, q2, q3, q4, q5, q6, r0, r1, r2, r3, r4, r5, r6⟩ := at7 (show At wa w.heap.size #[.int .i64 0, .slice none 0 0, .int .u32 0, .int .i64 0, .string ⟨#[]⟩, .bool false, .string ⟨#[]⟩] 28 from HYa.out)
  refine pure_ (i := 1) (N := some 106) (v := ?_) (a' := ?_) #[false, true, false, false, false, false] rfl rfl (by kernel_rfl) (fun _ _ _ h => h) (Or.inl ⟨by rfl, ?_⟩) ?_ ?_
  rotate_left
  · intro w'
    go_simp
    with_reducible rfl
  rotate_left
  · simp only [Act.put, List.setIfInBounds_toArray, List.set_cons_zero, List.set_cons_succ, i64_w, i32_w]
    rfl
  refine take_ (i := 0) (N := some 105) (v := ?_) (a' := ?_) #[true, true, false, false, false, false] rfl rfl (by kernel_rfl) (fun _ _ _ h => h) (Or.inl ⟨by rfl, ?_⟩) hHeld ?_ ?_
  rotate_left
  · rintro w' ⟨s0, s1, s2, s3, s4, s5, s6⟩
    go_simp
    with_reducible rfl
  rotate_left
  · simp only [Act.put, List.setIfInBounds_toArray, List.set_cons_zero, List.set_cons_succ, i64_w, i32_w]
    rfl
  refine take_ (i := 2) (N := some 107) (v := ?_) (a' := ?_) #[true, true, true, false, false, false] rfl rfl (by kernel_rfl) (fun _ _ _ h => h) (Or.inl ⟨by rfl, ?_⟩) hHeld ?_ ?_
  rotate_left
  · rintro w' ⟨s0, s1, s2, s3, s4, s5, s6⟩
    go_simp
    with_reducible rfl
  rotate_left
  · simp only [Act.put, List.setIfInBounds_toArray, List.set_cons_zero, List.set_cons_succ, i64_w, i32_w]
    rfl
  refine pure_ (i := 3) (N := some 108) (v := ?_) (a' := ?_) #[true, true, true, true, false, false] rfl rfl (by kernel_rfl) (fun _ _ _ h => h) (Or.inl ⟨by rfl, ?_⟩) ?_ ?_
  rotate_left
  · intro w'
    go_simp
    with_reducible rfl
  rotate_left
  · simp only [Act.put, List.setIfInBounds_toArray, List.set_cons_zero, List.set_cons_succ, i64_w, i32_w]
    rfl
  refine one_ (i := 4) (N := none) #[true, true, true, true, true, false] rfl rfl (by kernel_rfl) (by decide) (fun K hK => ?_)
  have HZb := Lib.hid (at_ne7 (v0 := .int .i64 c.kind) (v1 := .slice kA kn kc) (v2 := .int .u32 c.fl) (v3 := .int .i64 c.ex) (v4 := .string c.body) (v5 := .bool c.quiet) (v6 := .string c.reply) HZa.out hyz.symm)
  refine skip_ (w1 := ?_) (by rfl) rfl ?_ ?_
  rotate_left
  · go_simp
    rfl
  refine hK.out _ _ ⟨(At.cell HZb.out 0).trans rfl, (At.cell HZb.out 1).trans rfl, (At.cell HZb.out 2).trans rfl, (At.cell HZb.out 3).trans rfl, (At.cell HZb.out 4).trans rfl, (At.cell HZb.out 5).trans rfl, (At.cell HZb.out 6).trans rfl⟩ (fun hHeld => ?_)
  clear hK K
  refine pure_ (i := 5) (N := some 5) (v := ?_) (a' := ?_) #[true, true, true, true, true, true] rfl rfl (by kernel_rfl) (fun _ _ _ h => h) (Or.inl ⟨by rfl, ?_⟩) ?_ ?_
  rotate_left
  · intro w'
    go_simp
    with_reducible rfl
  rotate_left
  · simp only [Act.put, List.setIfInBounds_toArray, List.set_cons_zero, List.set_cons_succ, i64_w, i32_w]
    rfl
  refine done_ (by kernel_rfl) ?_
  clear q0 q1 q2 q3 q4 q5 q6 r0 r1 r2 r3 r4 r5 r6
  go_wp2_with (fail)
  refine bodyPost_ret (results_ct (p := 4) (u := 5) (ty := 28) (fn := Tryd.f14) ?h0 _ _ w.heap.size 28 #[.int .i64 c.kind, .slice kA kn kc, .int .u32 c.fl, .int .i64 c.ex, .string c.body, .bool c.quiet, .string c.reply] (0, 0) _ ?h1 ?h2 Tryd.underlying28 rfl (by kernel_rfl)) ?h3 ?h4
  case h0 => rfl
  case h1 => rfl
  case h2 => exact at_put7 HYa.out
  case h3 => rfl
  case h4 => exact ⟨.slice (some ⟨g0, 0, none⟩) 0 c0, .slice kA kn kc, rfl, keys_res HVa.out HYa.out (by decide) (chg_set7 (chg_refl _ _)), feed_res HFa.out HYa.out (chg_set7 (chg_refl _ _)), turn_new7 HTa.out (Nat.le_refl _), .inl (cut0_own (some ⟨g0, 0, none⟩) n0 c0)⟩
end Go.Proofs.YthinmioognadpaaDoor.Feed

/- line: a line is at its end (own text; written by wip/tools/gen_feednl.py). -/
namespace Go.Proofs.YthinmioognadpaaDoor.Feed
open Go.RowKit Go.Proofs.YthinmioognadpaaDoor.Mem Go.Proofs.YthinmioognadpaaDoorW.PrintWords Go.Proofs.YthinmioognadpaaDoorW.PrintLast Go.Proofs.YthinmioognadpaaDoorW.PrintMore
set_option linter.unusedVariables false
set_option linter.unusedSimpArgs false
set_option maxRecDepth 100000 in
set_option maxHeartbeats 3200000 in
theorem nl_Ze (b : Nat) (s : St) (hv : Value) (c : Cm) (d : Int) (w : World) (h : FeedAt w b s hv) (hl : s.held.length ≤ 100000) (hp : ParseIs s.held c d) (hq : s.held.length = 0) (hd : d = 0) :
    Calls Tryd.prog 14 #[.pointer (some ⟨b, 0, none⟩), .int .u8 10] w (StepsTo b hv w { s with held := [], c := c, left := d, tail := 0, cr := false, mode := 3 } c (c.kind == 8)) := by
  subst hd
  obtain ⟨kv, ha, hr, hk⟩ := h
  have HL := Lib.hid hl
  obtain ⟨A0, c0, ev⟩ := Kd.R_slice hr
  obtain ⟨n0, hn0⟩ : ∃ n, n = s.held.length := ⟨_, rfl⟩
  rw [← hn0] at ev
  have HN0 := Lib.hid hn0
  clear hn0
  subst ev
  go_enter Tryd.func14, Tryd.ntmps14
  go_upto_region 1 with (fail)
  have HA := Lib.hid (at_alloc (o := .cells Z7 28) ha)
  have HR1 := Lib.hid (Kd.R_alloc hr (.cells Z7 28))
  have HK := Lib.hid (keys_below hk (below_alloc (Below.refl _ _) (.cells Z7 28)))
  have HY := Lib.hid (at_new w Z7 28)
  have HT := Lib.hid (turn_below (turn_refl b (.slice A0 n0 c0) w) (below_alloc (Below.refl _ _) (.cells Z7 28)))
  have hsz : w.heap.size < (w.alloc (.cells Z7 28)).heap.size := by rw [World.size_alloc]; omega
  have hb := ha.lt
  clear ha hr hk hl
  unfold Z7 at HA HR1 HK HY HT hsz
  generalize w.alloc (.cells #[.int .i64 0, .slice none 0 0, .int .u32 0, .int .i64 0, .string ⟨#[]⟩, .bool false, .string ⟨#[]⟩] 28) = w0 at *
  replace HY : Hid (At w0 w.heap.size Z7 28) := HY
  have c1 : w0.cell? ⟨b, 1, none⟩ = some (.slice A0 n0 c0) := HA.out.cell 1
  obtain rfl : n0 = 0 := by have := HN0.out; omega
  have hcv := held_string HR1.out HN0.out
  rw [← lineL_nil s.held hq] at hcv
  clear hq
  obtain ⟨TX, hTX⟩ : ∃ t, t = strOfNums (lineL s.held) := ⟨_, rfl⟩
  unfold ParseIs at hp
  rw [← hTX] at hcv hp
  unfold cmV at hp
  have HP := Lib.hid hp
  clear hp hTX
  go_upto_region 12 with (fail)
  go_upto_region 13 with ((with_reducible refine (HP.out _).mono ?_); rintro e w1 ⟨v, rfl, hkv, hb1⟩; obtain ⟨kA, kc, ek, -⟩ := Kd.Q_slice hkv; obtain ⟨kn, hkn⟩ : ∃ n, n = c.keys.length := ⟨_, rfl⟩; rw [← hkn] at ek; clear hkn; subst ek)
  have hz1 := hb1.size
  have hbw := HA.out.lt
  have hyw := HY.out.lt
  have HZ1 := Lib.hid (at_new w1 #[.int .i64 c.kind, .slice kA kn kc, .int .u32 c.fl, .int .i64 c.ex, .string c.body, .bool c.quiet, .string c.reply] 28)
  have HA1 := Lib.hid (at_alloc (o := .cells #[.int .i64 c.kind, .slice kA kn kc, .int .u32 c.fl, .int .i64 c.ex, .string c.body, .bool c.quiet, .string c.reply] 28) (at_below HA.out hb1))
  have HR2 := Lib.hid (Kd.R_alloc (Kd.R_below HR1.out hb1) (.cells #[.int .i64 c.kind, .slice kA kn kc, .int .u32 c.fl, .int .i64 c.ex, .string c.body, .bool c.quiet, .string c.reply] 28))
  have HK1 := Lib.hid (keys_below (keys_below HK.out hb1) (below_alloc (Below.refl _ _) (.cells #[.int .i64 c.kind, .slice kA kn kc, .int .u32 c.fl, .int .i64 c.ex, .string c.body, .bool c.quiet, .string c.reply] 28)))
  have HV1 := Lib.hid (keys_below hkv (below_alloc (Below.refl _ _) (.cells #[.int .i64 c.kind, .slice kA kn kc, .int .u32 c.fl, .int .i64 c.ex, .string c.body, .bool c.quiet, .string c.reply] 28)))
  have HY1 := Lib.hid (at_alloc (o := .cells #[.int .i64 c.kind, .slice kA kn kc, .int .u32 c.fl, .int .i64 c.ex, .string c.body, .bool c.quiet, .string c.reply] 28) (at_below HY.out hb1))
  have HT1 := Lib.hid (turn_below (turn_below HT.out hb1) (below_alloc (Below.refl _ _) (.cells #[.int .i64 c.kind, .slice kA kn kc, .int .u32 c.fl, .int .i64 c.ex, .string c.body, .bool c.quiet, .string c.reply] 28)))
  clear HA HR1 HK HY HT hkv hb1 HP hcv c1
  generalize w1.alloc (.cells #[.int .i64 c.kind, .slice kA kn kc, .int .u32 c.fl, .int .i64 c.ex, .string c.body, .bool c.quiet, .string c.reply] 28) = w2 at *
  generalize hz : w1.heap.size = z at *
  have hbz : z ≠ b := by omega
  have hby : w.heap.size ≠ b := by omega
  have hyz : w.heap.size ≠ z := by omega
  have hwz : w.heap.size ≤ z := by omega
  clear hz hz1
  have c1 : w2.cell? ⟨b, 1, none⟩ = some (.slice A0 0 c0) := HA1.out.cell 1
  have f1 := HA1.out.free 1
  go_upto_region 14 with (fail)
  have kb : Chg (fun i => i = b) w2 (w2.setCell ⟨b, 1, none⟩ (.slice A0 0 c0)) := chg_set (chg_refl _ _) rfl
  have HA3 := Lib.hid (show At (w2.setCell ⟨b, 1, none⟩ (.slice A0 0 c0)) b (feedA b { s with held := [] } (.slice A0 0 c0) kv) 42 from at_set' HA1.out rfl)
  have HR3 := Lib.hid (Kd.R_mono (Kd.R_step (Kd.R_tight rfl (R_cut0 HR2.out HN0.out)) (fun j hj hlt => kb.block j hlt (fun e => own_ne HA1.out HR2.out (by rw [← cut0_own A0 0 c0, ← e]; exact hj)))) (fun _ _ => trivial))
  have HK3 := Lib.hid (keys_res HK1.out HA1.out (by decide) kb)
  have HV3 := Lib.hid (keys_res HV1.out HA1.out (by decide) kb)
  have HY3 := Lib.hid (show At (w2.setCell ⟨b, 1, none⟩ (.slice A0 0 c0)) w.heap.size Z7 28 from (kb.block _ HY1.out.lt hby).trans HY1.out)
  have HZ3 := Lib.hid (show At (w2.setCell ⟨b, 1, none⟩ (.slice A0 0 c0)) z #[.int .i64 c.kind, .slice kA kn kc, .int .u32 c.fl, .int .i64 c.ex, .string c.body, .bool c.quiet, .string c.reply] 28 from (kb.block _ HZ1.out.lt hbz).trans HZ1.out)
  have HT3 := Lib.hid (turn_set (i := 1) (v := .slice A0 0 c0) HT1.out)
  clear kb HA1 HR2 HK1 HV1 HY1 HZ1 HT1 c1 f1
  generalize w2.setCell ⟨b, 1, none⟩ (.slice A0 0 c0) = w3 at *
  obtain ⟨t0, t1, t2, t3, t4, t5, t6, -⟩ := at7 HZ3.out
  have e2 : w3.cell? ⟨b, 2, none⟩ = some (.int .i64 s.c.kind) := HA3.out.cell 2
  have e3 : w3.cell? ⟨b, 3, none⟩ = some (kv) := HA3.out.cell 3
  have e4 : w3.cell? ⟨b, 4, none⟩ = some (.int .u32 s.c.fl) := HA3.out.cell 4
  have e5 : w3.cell? ⟨b, 5, none⟩ = some (.int .i64 s.c.ex) := HA3.out.cell 5
  have e6 : w3.cell? ⟨b, 6, none⟩ = some (.string s.c.body) := HA3.out.cell 6
  have e7 : w3.cell? ⟨b, 7, none⟩ = some (.bool s.c.quiet) := HA3.out.cell 7
  have e8 : w3.cell? ⟨b, 8, none⟩ = some (.string s.c.reply) := HA3.out.cell 8
  have e9 : w3.cell? ⟨b, 9, none⟩ = some (.int .i64 s.left) := HA3.out.cell 9
  have e10 : w3.cell? ⟨b, 10, none⟩ = some (.int .i64 s.tail) := HA3.out.cell 10
  have e11 : w3.cell? ⟨b, 11, none⟩ = some (.bool s.cr) := HA3.out.cell 11
  have f2 := HA3.out.free 2
  have f3 := HA3.out.free 3
  have f4 := HA3.out.free 4
  have f5 := HA3.out.free 5
  have f6 := HA3.out.free 6
  have f7 := HA3.out.free 7
  have f8 := HA3.out.free 8
  have f9 := HA3.out.free 9
  have f10 := HA3.out.free 10
  have f11 := HA3.out.free 11
  go_upto_region 16 with (fail)
  have kb : Chg (fun i => i = b) w3 ((((((((((w3.setCell ⟨b, 2, none⟩ (.int .i64 c.kind)).setCell ⟨b, 3, none⟩ (.slice kA kn kc)).setCell ⟨b, 4, none⟩ (.int .u32 c.fl)).setCell ⟨b, 5, none⟩ (.int .i64 c.ex)).setCell ⟨b, 6, none⟩ (.string c.body)).setCell ⟨b, 7, none⟩ (.bool c.quiet)).setCell ⟨b, 8, none⟩ (.string c.reply)).setCell ⟨b, 9, none⟩ (.int .i64 0)).setCell ⟨b, 10, none⟩ (.int .i64 0)).setCell ⟨b, 11, none⟩ (.bool false)) := chg_load (chg_refl _ _)
  have HA4 := Lib.hid (feed_load (c := c) (d := 0) (v := .slice kA kn kc) HA3.out)
  have HR4 := Lib.hid (Kd.R_mono (Kd.R_step (Kd.R_tight rfl HR3.out) (fun j hj hlt => kb.block j hlt (fun e => own_ne HA3.out HR3.out (by rw [← e]; exact hj)))) (fun _ _ => trivial))
  have HV4 := Lib.hid (keys_res HV3.out HA3.out (by decide) kb)
  have HY4 := Lib.hid (show At ((((((((((w3.setCell ⟨b, 2, none⟩ (.int .i64 c.kind)).setCell ⟨b, 3, none⟩ (.slice kA kn kc)).setCell ⟨b, 4, none⟩ (.int .u32 c.fl)).setCell ⟨b, 5, none⟩ (.int .i64 c.ex)).setCell ⟨b, 6, none⟩ (.string c.body)).setCell ⟨b, 7, none⟩ (.bool c.quiet)).setCell ⟨b, 8, none⟩ (.string c.reply)).setCell ⟨b, 9, none⟩ (.int .i64 0)).setCell ⟨b, 10, none⟩ (.int .i64 0)).setCell ⟨b, 11, none⟩ (.bool false)) w.heap.size Z7 28 from (kb.block _ HY3.out.lt hby).trans HY3.out)
  have HZ4 := Lib.hid (show At ((((((((((w3.setCell ⟨b, 2, none⟩ (.int .i64 c.kind)).setCell ⟨b, 3, none⟩ (.slice kA kn kc)).setCell ⟨b, 4, none⟩ (.int .u32 c.fl)).setCell ⟨b, 5, none⟩ (.int .i64 c.ex)).setCell ⟨b, 6, none⟩ (.string c.body)).setCell ⟨b, 7, none⟩ (.bool c.quiet)).setCell ⟨b, 8, none⟩ (.string c.reply)).setCell ⟨b, 9, none⟩ (.int .i64 0)).setCell ⟨b, 10, none⟩ (.int .i64 0)).setCell ⟨b, 11, none⟩ (.bool false)) z #[.int .i64 c.kind, .slice kA kn kc, .int .u32 c.fl, .int .i64 c.ex, .string c.body, .bool c.quiet, .string c.reply] 28 from (kb.block _ HZ3.out.lt hbz).trans HZ3.out)
  have HT4 := Lib.hid (turn_load (c := c) (d := 0) (v := .slice kA kn kc) HT3.out)
  clear kb HA3 HR3 HK3 HV3 HY3 HZ3 HT3 t0 t1 t2 t3 t4 t5 t6 e2 f2 e3 f3 e4 f4 e5 f5 e6 f6 e7 f7 e8 f8 e9 f9 e10 f10 e11 f11
  generalize ((((((((((w3.setCell ⟨b, 2, none⟩ (.int .i64 c.kind)).setCell ⟨b, 3, none⟩ (.slice kA kn kc)).setCell ⟨b, 4, none⟩ (.int .u32 c.fl)).setCell ⟨b, 5, none⟩ (.int .i64 c.ex)).setCell ⟨b, 6, none⟩ (.string c.body)).setCell ⟨b, 7, none⟩ (.bool c.quiet)).setCell ⟨b, 8, none⟩ (.string c.reply)).setCell ⟨b, 9, none⟩ (.int .i64 0)).setCell ⟨b, 10, none⟩ (.int .i64 0)).setCell ⟨b, 11, none⟩ (.bool false)) = w4 at *
  have e0 : w4.cell? ⟨b, 0, none⟩ = some (.func (.func (modeF s.mode)) #[.pointer (some ⟨b, 0, none⟩)] #[]) := HA4.out.cell 0
  have f0 := HA4.out.free 0
  go_upto_region 17 with (fail)
  have HA5 := Lib.hid (show At (w4.setCell ⟨b, 0, none⟩ (.func (.func 24) #[.pointer (some ⟨b, 0, none⟩)] #[])) b (feedA b { s with held := [], c := c, left := 0, tail := 0, cr := false, mode := 2 } (.slice A0 0 c0) (.slice kA kn kc)) 42 from at_set' HA4.out rfl)
  have kb : Chg (fun i => i = b) w4 (w4.setCell ⟨b, 0, none⟩ (.func (.func 24) #[.pointer (some ⟨b, 0, none⟩)] #[])) := chg_set (chg_refl _ _) rfl
  have HR5 := Lib.hid (Kd.R_mono (Kd.R_step (Kd.R_tight rfl HR4.out) (fun j hj hlt => kb.block j hlt (fun e => own_ne HA4.out HR4.out (by rw [← e]; exact hj)))) (fun _ _ => trivial))
  have HV5 := Lib.hid (keys_res HV4.out HA4.out (by decide) kb)
  have HY5 := Lib.hid (show At (w4.setCell ⟨b, 0, none⟩ (.func (.func 24) #[.pointer (some ⟨b, 0, none⟩)] #[])) w.heap.size Z7 28 from (kb.block _ HY4.out.lt hby).trans HY4.out)
  have HZ5 := Lib.hid (show At (w4.setCell ⟨b, 0, none⟩ (.func (.func 24) #[.pointer (some ⟨b, 0, none⟩)] #[])) z #[.int .i64 c.kind, .slice kA kn kc, .int .u32 c.fl, .int .i64 c.ex, .string c.body, .bool c.quiet, .string c.reply] 28 from (kb.block _ HZ4.out.lt hbz).trans HZ4.out)
  have HT5 := Lib.hid (turn_set (i := 0) (v := (.func (.func 24) #[.pointer (some ⟨b, 0, none⟩)] #[])) HT4.out)
  clear kb HA4 HR4 HV4 HY4 HZ4 HT4 e0 f0
  generalize (w4.setCell ⟨b, 0, none⟩ (.func (.func 24) #[.pointer (some ⟨b, 0, none⟩)] #[])) = w5 at *
  have e0 : w5.cell? ⟨b, 0, none⟩ = some (.func (.func 24) #[.pointer (some ⟨b, 0, none⟩)] #[]) := HA5.out.cell 0
  have f0 := HA5.out.free 0
  go_upto_region 19 with (fail)
  have HA9 := Lib.hid (show At (w5.setCell ⟨b, 0, none⟩ (.func (.func 25) #[.pointer (some ⟨b, 0, none⟩)] #[])) b (feedA b { s with held := [], c := c, left := 0, tail := 0, cr := false, mode := 3 } (.slice A0 0 c0) (.slice kA kn kc)) 42 from at_set' HA5.out rfl)
  have kb : Chg (fun i => i = b) w5 (w5.setCell ⟨b, 0, none⟩ (.func (.func 25) #[.pointer (some ⟨b, 0, none⟩)] #[])) := chg_set (chg_refl _ _) rfl
  have HR9 := Lib.hid (Kd.R_mono (Kd.R_step (Kd.R_tight rfl HR5.out) (fun j hj hlt => kb.block j hlt (fun e => own_ne HA5.out HR5.out (by rw [← e]; exact hj)))) (fun _ _ => trivial))
  have HV9 := Lib.hid (keys_res HV5.out HA5.out (by decide) kb)
  have HY9 := Lib.hid (show At (w5.setCell ⟨b, 0, none⟩ (.func (.func 25) #[.pointer (some ⟨b, 0, none⟩)] #[])) w.heap.size Z7 28 from (kb.block _ HY5.out.lt hby).trans HY5.out)
  have HZ9 := Lib.hid (show At (w5.setCell ⟨b, 0, none⟩ (.func (.func 25) #[.pointer (some ⟨b, 0, none⟩)] #[])) z #[.int .i64 c.kind, .slice kA kn kc, .int .u32 c.fl, .int .i64 c.ex, .string c.body, .bool c.quiet, .string c.reply] 28 from (kb.block _ HZ5.out.lt hbz).trans HZ5.out)
  have HT9 := Lib.hid (turn_set (i := 0) (v := (.func (.func 25) #[.pointer (some ⟨b, 0, none⟩)] #[])) HT5.out)
  clear kb HA5 HR5 HV5 HY5 HZ5 HT5 e0 f0
  generalize (w5.setCell ⟨b, 0, none⟩ (.func (.func 25) #[.pointer (some ⟨b, 0, none⟩)] #[])) = w9 at *
  have HF9 := Lib.hid (show FeedAt w9 b { s with held := [], c := c, left := 0, tail := 0, cr := false, mode := 3 } (.slice A0 0 c0) from ⟨_, HA9.out, HR9.out, HV9.out⟩)
  have HZa := Lib.hid (at_drew HZ9.out)
  have HYa := Lib.hid (at_drew HY9.out)
  have HFa := Lib.hid (feed_below HF9.out (below_drew (Below.refl _ _)))
  have HVa := Lib.hid (keys_below HV9.out (below_drew (Below.refl _ _)))
  have HTa := Lib.hid (turn_below HT9.out (below_drew (Below.refl _ _)))
  refine start_ (n := 6) (S := fun w' => w'.cell? ⟨z, 0, none⟩ = some (.int .i64 c.kind) ∧ w'.cell? ⟨z, 1, none⟩ = some (.slice kA kn kc) ∧ w'.cell? ⟨z, 2, none⟩ = some (.int .u32 c.fl) ∧ w'.cell? ⟨z, 3, none⟩ = some (.int .i64 c.ex) ∧ w'.cell? ⟨z, 4, none⟩ = some (.string c.body) ∧ w'.cell? ⟨z, 5, none⟩ = some (.bool c.quiet) ∧ w'.cell? ⟨z, 6, none⟩ = some (.string c.reply)) (ds := []) #[false, false, false, false, false, false] (by kernel_rfl) rfl rfl ⟨(At.cell HZa.out 0).trans rfl, (At.cell HZa.out 1).trans rfl, (At.cell HZa.out 2).trans rfl, (At.cell HZa.out 3).trans rfl, (At.cell HZa.out 4).trans rfl, (At.cell HZa.out 5).trans rfl, (At.cell HZa.out 6).trans rfl⟩ (fun hHeld => ?_)
  generalize w9.drew = wa at HZa HYa HFa HVa HTa hHeld ⊢
  obtain ⟨q0, q1, q2, q3, q4, q5, q6, r0, r1, r2, r3, r4, r5, r6⟩ := at7 (show At wa w.heap.size #[.int .i64 0, .slice none 0 0, .int .u32 0, .int .i64 0, .string ⟨#[]⟩, .bool false, .string ⟨#[]⟩] 28 from HYa.out)
  refine pure_ (i := 1) (N := some 106) (v := ?_) (a' := ?_) #[false, true, false, false, false, false] rfl rfl (by kernel_rfl) (fun _ _ _ h => h) (Or.inl ⟨by rfl, ?_⟩) ?_ ?_
  rotate_left
  · intro w'
    go_simp
    with_reducible rfl
  rotate_left
  · simp only [Act.put, List.setIfInBounds_toArray, List.set_cons_zero, List.set_cons_succ, i64_w, i32_w]
    rfl
  refine take_ (i := 0) (N := some 105) (v := ?_) (a' := ?_) #[true, true, false, false, false, false] rfl rfl (by kernel_rfl) (fun _ _ _ h => h) (Or.inl ⟨by rfl, ?_⟩) hHeld ?_ ?_
  rotate_left
  · rintro w' ⟨s0, s1, s2, s3, s4, s5, s6⟩
    go_simp
    with_reducible rfl
  rotate_left
  · simp only [Act.put, List.setIfInBounds_toArray, List.set_cons_zero, List.set_cons_succ, i64_w, i32_w]
    rfl
  refine take_ (i := 2) (N := some 107) (v := ?_) (a' := ?_) #[true, true, true, false, false, false] rfl rfl (by kernel_rfl) (fun _ _ _ h => h) (Or.inl ⟨by rfl, ?_⟩) hHeld ?_ ?_
  rotate_left
  · rintro w' ⟨s0, s1, s2, s3, s4, s5, s6⟩
    go_simp
    with_reducible rfl
  rotate_left
  · simp only [Act.put, List.setIfInBounds_toArray, List.set_cons_zero, List.set_cons_succ, i64_w, i32_w]
    rfl
  refine pure_ (i := 3) (N := some 108) (v := ?_) (a' := ?_) #[true, true, true, true, false, false] rfl rfl (by kernel_rfl) (fun _ _ _ h => h) (Or.inl ⟨by rfl, ?_⟩) ?_ ?_
  rotate_left
  · intro w'
    go_simp
    with_reducible rfl
  rotate_left
  · simp only [Act.put, List.setIfInBounds_toArray, List.set_cons_zero, List.set_cons_succ, i64_w, i32_w]
    rfl
  refine one_ (i := 4) (N := none) #[true, true, true, true, true, false] rfl rfl (by kernel_rfl) (by decide) (fun K hK => ?_)
  have HZb := Lib.hid (at_ne7 (v0 := .int .i64 c.kind) (v1 := .slice kA kn kc) (v2 := .int .u32 c.fl) (v3 := .int .i64 c.ex) (v4 := .string c.body) (v5 := .bool c.quiet) (v6 := .string c.reply) HZa.out hyz.symm)
  refine skip_ (w1 := ?_) (by rfl) rfl ?_ ?_
  rotate_left
  · go_simp
    rfl
  refine hK.out _ _ ⟨(At.cell HZb.out 0).trans rfl, (At.cell HZb.out 1).trans rfl, (At.cell HZb.out 2).trans rfl, (At.cell HZb.out 3).trans rfl, (At.cell HZb.out 4).trans rfl, (At.cell HZb.out 5).trans rfl, (At.cell HZb.out 6).trans rfl⟩ (fun hHeld => ?_)
  clear hK K
  refine pure_ (i := 5) (N := some 5) (v := ?_) (a' := ?_) #[true, true, true, true, true, true] rfl rfl (by kernel_rfl) (fun _ _ _ h => h) (Or.inl ⟨by rfl, ?_⟩) ?_ ?_
  rotate_left
  · intro w'
    go_simp
    with_reducible rfl
  rotate_left
  · simp only [Act.put, List.setIfInBounds_toArray, List.set_cons_zero, List.set_cons_succ, i64_w, i32_w]
    rfl
  refine done_ (by kernel_rfl) ?_
  clear q0 q1 q2 q3 q4 q5 q6 r0 r1 r2 r3 r4 r5 r6
  go_wp2_with (fail)
  refine bodyPost_ret (results_ct (p := 4) (u := 5) (ty := 28) (fn := Tryd.f14) ?h0 _ _ w.heap.size 28 #[.int .i64 c.kind, .slice kA kn kc, .int .u32 c.fl, .int .i64 c.ex, .string c.body, .bool c.quiet, .string c.reply] (0, 0) _ ?h1 ?h2 Tryd.underlying28 rfl (by kernel_rfl)) ?h3 ?h4
  case h0 => rfl
  case h1 => rfl
  case h2 => exact at_put7 HYa.out
  case h3 => rfl
  case h4 => exact ⟨.slice A0 0 c0, .slice kA kn kc, rfl, keys_res HVa.out HYa.out (by decide) (chg_set7 (chg_refl _ _)), feed_res HFa.out HYa.out (chg_set7 (chg_refl _ _)), turn_new7 HTa.out (Nat.le_refl _), .inl (cut0_own A0 0 c0)⟩
set_option maxRecDepth 100000 in
set_option maxHeartbeats 3200000 in
theorem nl_Zn (b : Nat) (s : St) (hv : Value) (c : Cm) (d : Int) (w : World) (h : FeedAt w b s hv) (hl : s.held.length ≤ 100000) (hp : ParseIs s.held c d) (hq : 0 < s.held.length) (h13 : ¬ s.held.getLast? = some 13) (hd : d = 0) :
    Calls Tryd.prog 14 #[.pointer (some ⟨b, 0, none⟩), .int .u8 10] w (StepsTo b hv w { s with held := [], c := c, left := d, tail := 0, cr := false, mode := 3 } c (c.kind == 8)) := by
  subst hd
  obtain ⟨kv, ha, hr, hk⟩ := h
  have HL := Lib.hid hl
  obtain ⟨A0, c0, ev⟩ := Kd.R_slice hr
  obtain ⟨n0, hn0⟩ : ∃ n, n = s.held.length := ⟨_, rfl⟩
  rw [← hn0] at ev
  have HN0 := Lib.hid hn0
  clear hn0
  subst ev
  go_enter Tryd.func14, Tryd.ntmps14
  go_upto_region 1 with (fail)
  have HA := Lib.hid (at_alloc (o := .cells Z7 28) ha)
  have HR1 := Lib.hid (Kd.R_alloc hr (.cells Z7 28))
  have HK := Lib.hid (keys_below hk (below_alloc (Below.refl _ _) (.cells Z7 28)))
  have HY := Lib.hid (at_new w Z7 28)
  have HT := Lib.hid (turn_below (turn_refl b (.slice A0 n0 c0) w) (below_alloc (Below.refl _ _) (.cells Z7 28)))
  have hsz : w.heap.size < (w.alloc (.cells Z7 28)).heap.size := by rw [World.size_alloc]; omega
  have hb := ha.lt
  clear ha hr hk hl
  unfold Z7 at HA HR1 HK HY HT hsz
  generalize w.alloc (.cells #[.int .i64 0, .slice none 0 0, .int .u32 0, .int .i64 0, .string ⟨#[]⟩, .bool false, .string ⟨#[]⟩] 28) = w0 at *
  replace HY : Hid (At w0 w.heap.size Z7 28) := HY
  obtain ⟨g0, ev⟩ : ∃ g, A0 = some ⟨g, 0, none⟩ := by
    obtain ⟨g, cap, e, -⟩ := Kd.R_form HR1.out (by omega)
    injection e with e
    exact ⟨g, e⟩
  subst ev
  have c1 : w0.cell? ⟨b, 1, none⟩ = some (.slice (some ⟨g0, 0, none⟩) n0 c0) := HA.out.cell 1
  obtain ⟨y, hy⟩ : ∃ y : Int, y = ((s.held.length - 1 : Nat) : Int) := ⟨_, rfl⟩
  have h7 : (n0 : Int) - 1 = y := by have h8 := HN0.out; omega
  have y1 : (0 : Int) ≤ y := by omega
  have y2 : y < (n0 : Int) := by have := HN0.out; omega
  have y0 : IntKind.i64.wrap ((n0 : Int) - 1) = y := by have h8 := HN0.out; have h9 := HL.out; rw [h7]; exact IntWalk.i64_in y ⟨by omega, by omega⟩
  have y3 : y ≤ (c0 : Int) := by have h8 := (Kd.R_reads' HR1.out).2.1; omega
  have hg : decide ((0 : Int) < (n0 : Int)) = true := decide_eq_true (by omega)
  have hyn : y.toNat + 1 = s.held.length := by omega
  obtain ⟨x0, x1⟩ := Kd.R_celln 0 HR1.out y y1 y2
  have x2 := last_rd s.held hq
  rw [← hy] at x2
  clear h7 hy hq
  have x3 : (rdOf 0 s.held y == 13) = false := beq_eq_false_iff_ne.2 (fun e => h13 (by rw [x2, e]))
  have hcv := held_string HR1.out HN0.out
  rw [← lineL_ne s.held h13] at hcv
  clear x2 hyn h13
  generalize rdOf 0 s.held y = xl at *
  obtain ⟨TX, hTX⟩ : ∃ t, t = strOfNums (lineL s.held) := ⟨_, rfl⟩
  unfold ParseIs at hp
  rw [← hTX] at hcv hp
  unfold cmV at hp
  have HP := Lib.hid hp
  clear hp hTX
  go_upto_region 12 with (fail)
  go_upto_region 13 with ((with_reducible refine (HP.out _).mono ?_); rintro e w1 ⟨v, rfl, hkv, hb1⟩; obtain ⟨kA, kc, ek, -⟩ := Kd.Q_slice hkv; obtain ⟨kn, hkn⟩ : ∃ n, n = c.keys.length := ⟨_, rfl⟩; rw [← hkn] at ek; clear hkn; subst ek)
  have hz1 := hb1.size
  have hbw := HA.out.lt
  have hyw := HY.out.lt
  have HZ1 := Lib.hid (at_new w1 #[.int .i64 c.kind, .slice kA kn kc, .int .u32 c.fl, .int .i64 c.ex, .string c.body, .bool c.quiet, .string c.reply] 28)
  have HA1 := Lib.hid (at_alloc (o := .cells #[.int .i64 c.kind, .slice kA kn kc, .int .u32 c.fl, .int .i64 c.ex, .string c.body, .bool c.quiet, .string c.reply] 28) (at_below HA.out hb1))
  have HR2 := Lib.hid (Kd.R_alloc (Kd.R_below HR1.out hb1) (.cells #[.int .i64 c.kind, .slice kA kn kc, .int .u32 c.fl, .int .i64 c.ex, .string c.body, .bool c.quiet, .string c.reply] 28))
  have HK1 := Lib.hid (keys_below (keys_below HK.out hb1) (below_alloc (Below.refl _ _) (.cells #[.int .i64 c.kind, .slice kA kn kc, .int .u32 c.fl, .int .i64 c.ex, .string c.body, .bool c.quiet, .string c.reply] 28)))
  have HV1 := Lib.hid (keys_below hkv (below_alloc (Below.refl _ _) (.cells #[.int .i64 c.kind, .slice kA kn kc, .int .u32 c.fl, .int .i64 c.ex, .string c.body, .bool c.quiet, .string c.reply] 28)))
  have HY1 := Lib.hid (at_alloc (o := .cells #[.int .i64 c.kind, .slice kA kn kc, .int .u32 c.fl, .int .i64 c.ex, .string c.body, .bool c.quiet, .string c.reply] 28) (at_below HY.out hb1))
  have HT1 := Lib.hid (turn_below (turn_below HT.out hb1) (below_alloc (Below.refl _ _) (.cells #[.int .i64 c.kind, .slice kA kn kc, .int .u32 c.fl, .int .i64 c.ex, .string c.body, .bool c.quiet, .string c.reply] 28)))
  clear HA HR1 HK HY HT hkv hb1 HP hcv c1 hg x0 x1 x3 y0 y1 y2 y3
  generalize w1.alloc (.cells #[.int .i64 c.kind, .slice kA kn kc, .int .u32 c.fl, .int .i64 c.ex, .string c.body, .bool c.quiet, .string c.reply] 28) = w2 at *
  generalize hz : w1.heap.size = z at *
  have hbz : z ≠ b := by omega
  have hby : w.heap.size ≠ b := by omega
  have hyz : w.heap.size ≠ z := by omega
  have hwz : w.heap.size ≤ z := by omega
  clear hz hz1
  have c1 : w2.cell? ⟨b, 1, none⟩ = some (.slice (some ⟨g0, 0, none⟩) n0 c0) := HA1.out.cell 1
  have f1 := HA1.out.free 1
  go_upto_region 14 with (fail)
  have kb : Chg (fun i => i = b) w2 (w2.setCell ⟨b, 1, none⟩ (.slice (some ⟨g0, 0, none⟩) 0 c0)) := chg_set (chg_refl _ _) rfl
  have HA3 := Lib.hid (show At (w2.setCell ⟨b, 1, none⟩ (.slice (some ⟨g0, 0, none⟩) 0 c0)) b (feedA b { s with held := [] } (.slice (some ⟨g0, 0, none⟩) 0 c0) kv) 42 from at_set' HA1.out rfl)
  have HR3 := Lib.hid (Kd.R_mono (Kd.R_step (Kd.R_tight rfl (R_cut0 HR2.out HN0.out)) (fun j hj hlt => kb.block j hlt (fun e => own_ne HA1.out HR2.out (by rw [← cut0_own (some ⟨g0, 0, none⟩) n0 c0, ← e]; exact hj)))) (fun _ _ => trivial))
  have HK3 := Lib.hid (keys_res HK1.out HA1.out (by decide) kb)
  have HV3 := Lib.hid (keys_res HV1.out HA1.out (by decide) kb)
  have HY3 := Lib.hid (show At (w2.setCell ⟨b, 1, none⟩ (.slice (some ⟨g0, 0, none⟩) 0 c0)) w.heap.size Z7 28 from (kb.block _ HY1.out.lt hby).trans HY1.out)
  have HZ3 := Lib.hid (show At (w2.setCell ⟨b, 1, none⟩ (.slice (some ⟨g0, 0, none⟩) 0 c0)) z #[.int .i64 c.kind, .slice kA kn kc, .int .u32 c.fl, .int .i64 c.ex, .string c.body, .bool c.quiet, .string c.reply] 28 from (kb.block _ HZ1.out.lt hbz).trans HZ1.out)
  have HT3 := Lib.hid (turn_set (i := 1) (v := .slice (some ⟨g0, 0, none⟩) 0 c0) HT1.out)
  clear kb HA1 HR2 HK1 HV1 HY1 HZ1 HT1 c1 f1
  generalize w2.setCell ⟨b, 1, none⟩ (.slice (some ⟨g0, 0, none⟩) 0 c0) = w3 at *
  obtain ⟨t0, t1, t2, t3, t4, t5, t6, -⟩ := at7 HZ3.out
  have e2 : w3.cell? ⟨b, 2, none⟩ = some (.int .i64 s.c.kind) := HA3.out.cell 2
  have e3 : w3.cell? ⟨b, 3, none⟩ = some (kv) := HA3.out.cell 3
  have e4 : w3.cell? ⟨b, 4, none⟩ = some (.int .u32 s.c.fl) := HA3.out.cell 4
  have e5 : w3.cell? ⟨b, 5, none⟩ = some (.int .i64 s.c.ex) := HA3.out.cell 5
  have e6 : w3.cell? ⟨b, 6, none⟩ = some (.string s.c.body) := HA3.out.cell 6
  have e7 : w3.cell? ⟨b, 7, none⟩ = some (.bool s.c.quiet) := HA3.out.cell 7
  have e8 : w3.cell? ⟨b, 8, none⟩ = some (.string s.c.reply) := HA3.out.cell 8
  have e9 : w3.cell? ⟨b, 9, none⟩ = some (.int .i64 s.left) := HA3.out.cell 9
  have e10 : w3.cell? ⟨b, 10, none⟩ = some (.int .i64 s.tail) := HA3.out.cell 10
  have e11 : w3.cell? ⟨b, 11, none⟩ = some (.bool s.cr) := HA3.out.cell 11
  have f2 := HA3.out.free 2
  have f3 := HA3.out.free 3
  have f4 := HA3.out.free 4
  have f5 := HA3.out.free 5
  have f6 := HA3.out.free 6
  have f7 := HA3.out.free 7
  have f8 := HA3.out.free 8
  have f9 := HA3.out.free 9
  have f10 := HA3.out.free 10
  have f11 := HA3.out.free 11
  go_upto_region 16 with (fail)
  have kb : Chg (fun i => i = b) w3 ((((((((((w3.setCell ⟨b, 2, none⟩ (.int .i64 c.kind)).setCell ⟨b, 3, none⟩ (.slice kA kn kc)).setCell ⟨b, 4, none⟩ (.int .u32 c.fl)).setCell ⟨b, 5, none⟩ (.int .i64 c.ex)).setCell ⟨b, 6, none⟩ (.string c.body)).setCell ⟨b, 7, none⟩ (.bool c.quiet)).setCell ⟨b, 8, none⟩ (.string c.reply)).setCell ⟨b, 9, none⟩ (.int .i64 0)).setCell ⟨b, 10, none⟩ (.int .i64 0)).setCell ⟨b, 11, none⟩ (.bool false)) := chg_load (chg_refl _ _)
  have HA4 := Lib.hid (feed_load (c := c) (d := 0) (v := .slice kA kn kc) HA3.out)
  have HR4 := Lib.hid (Kd.R_mono (Kd.R_step (Kd.R_tight rfl HR3.out) (fun j hj hlt => kb.block j hlt (fun e => own_ne HA3.out HR3.out (by rw [← e]; exact hj)))) (fun _ _ => trivial))
  have HV4 := Lib.hid (keys_res HV3.out HA3.out (by decide) kb)
  have HY4 := Lib.hid (show At ((((((((((w3.setCell ⟨b, 2, none⟩ (.int .i64 c.kind)).setCell ⟨b, 3, none⟩ (.slice kA kn kc)).setCell ⟨b, 4, none⟩ (.int .u32 c.fl)).setCell ⟨b, 5, none⟩ (.int .i64 c.ex)).setCell ⟨b, 6, none⟩ (.string c.body)).setCell ⟨b, 7, none⟩ (.bool c.quiet)).setCell ⟨b, 8, none⟩ (.string c.reply)).setCell ⟨b, 9, none⟩ (.int .i64 0)).setCell ⟨b, 10, none⟩ (.int .i64 0)).setCell ⟨b, 11, none⟩ (.bool false)) w.heap.size Z7 28 from (kb.block _ HY3.out.lt hby).trans HY3.out)
  have HZ4 := Lib.hid (show At ((((((((((w3.setCell ⟨b, 2, none⟩ (.int .i64 c.kind)).setCell ⟨b, 3, none⟩ (.slice kA kn kc)).setCell ⟨b, 4, none⟩ (.int .u32 c.fl)).setCell ⟨b, 5, none⟩ (.int .i64 c.ex)).setCell ⟨b, 6, none⟩ (.string c.body)).setCell ⟨b, 7, none⟩ (.bool c.quiet)).setCell ⟨b, 8, none⟩ (.string c.reply)).setCell ⟨b, 9, none⟩ (.int .i64 0)).setCell ⟨b, 10, none⟩ (.int .i64 0)).setCell ⟨b, 11, none⟩ (.bool false)) z #[.int .i64 c.kind, .slice kA kn kc, .int .u32 c.fl, .int .i64 c.ex, .string c.body, .bool c.quiet, .string c.reply] 28 from (kb.block _ HZ3.out.lt hbz).trans HZ3.out)
  have HT4 := Lib.hid (turn_load (c := c) (d := 0) (v := .slice kA kn kc) HT3.out)
  clear kb HA3 HR3 HK3 HV3 HY3 HZ3 HT3 t0 t1 t2 t3 t4 t5 t6 e2 f2 e3 f3 e4 f4 e5 f5 e6 f6 e7 f7 e8 f8 e9 f9 e10 f10 e11 f11
  generalize ((((((((((w3.setCell ⟨b, 2, none⟩ (.int .i64 c.kind)).setCell ⟨b, 3, none⟩ (.slice kA kn kc)).setCell ⟨b, 4, none⟩ (.int .u32 c.fl)).setCell ⟨b, 5, none⟩ (.int .i64 c.ex)).setCell ⟨b, 6, none⟩ (.string c.body)).setCell ⟨b, 7, none⟩ (.bool c.quiet)).setCell ⟨b, 8, none⟩ (.string c.reply)).setCell ⟨b, 9, none⟩ (.int .i64 0)).setCell ⟨b, 10, none⟩ (.int .i64 0)).setCell ⟨b, 11, none⟩ (.bool false)) = w4 at *
  have e0 : w4.cell? ⟨b, 0, none⟩ = some (.func (.func (modeF s.mode)) #[.pointer (some ⟨b, 0, none⟩)] #[]) := HA4.out.cell 0
  have f0 := HA4.out.free 0
  go_upto_region 17 with (fail)
  have HA5 := Lib.hid (show At (w4.setCell ⟨b, 0, none⟩ (.func (.func 24) #[.pointer (some ⟨b, 0, none⟩)] #[])) b (feedA b { s with held := [], c := c, left := 0, tail := 0, cr := false, mode := 2 } (.slice (some ⟨g0, 0, none⟩) 0 c0) (.slice kA kn kc)) 42 from at_set' HA4.out rfl)
  have kb : Chg (fun i => i = b) w4 (w4.setCell ⟨b, 0, none⟩ (.func (.func 24) #[.pointer (some ⟨b, 0, none⟩)] #[])) := chg_set (chg_refl _ _) rfl
  have HR5 := Lib.hid (Kd.R_mono (Kd.R_step (Kd.R_tight rfl HR4.out) (fun j hj hlt => kb.block j hlt (fun e => own_ne HA4.out HR4.out (by rw [← e]; exact hj)))) (fun _ _ => trivial))
  have HV5 := Lib.hid (keys_res HV4.out HA4.out (by decide) kb)
  have HY5 := Lib.hid (show At (w4.setCell ⟨b, 0, none⟩ (.func (.func 24) #[.pointer (some ⟨b, 0, none⟩)] #[])) w.heap.size Z7 28 from (kb.block _ HY4.out.lt hby).trans HY4.out)
  have HZ5 := Lib.hid (show At (w4.setCell ⟨b, 0, none⟩ (.func (.func 24) #[.pointer (some ⟨b, 0, none⟩)] #[])) z #[.int .i64 c.kind, .slice kA kn kc, .int .u32 c.fl, .int .i64 c.ex, .string c.body, .bool c.quiet, .string c.reply] 28 from (kb.block _ HZ4.out.lt hbz).trans HZ4.out)
  have HT5 := Lib.hid (turn_set (i := 0) (v := (.func (.func 24) #[.pointer (some ⟨b, 0, none⟩)] #[])) HT4.out)
  clear kb HA4 HR4 HV4 HY4 HZ4 HT4 e0 f0
  generalize (w4.setCell ⟨b, 0, none⟩ (.func (.func 24) #[.pointer (some ⟨b, 0, none⟩)] #[])) = w5 at *
  have e0 : w5.cell? ⟨b, 0, none⟩ = some (.func (.func 24) #[.pointer (some ⟨b, 0, none⟩)] #[]) := HA5.out.cell 0
  have f0 := HA5.out.free 0
  go_upto_region 19 with (fail)
  have HA9 := Lib.hid (show At (w5.setCell ⟨b, 0, none⟩ (.func (.func 25) #[.pointer (some ⟨b, 0, none⟩)] #[])) b (feedA b { s with held := [], c := c, left := 0, tail := 0, cr := false, mode := 3 } (.slice (some ⟨g0, 0, none⟩) 0 c0) (.slice kA kn kc)) 42 from at_set' HA5.out rfl)
  have kb : Chg (fun i => i = b) w5 (w5.setCell ⟨b, 0, none⟩ (.func (.func 25) #[.pointer (some ⟨b, 0, none⟩)] #[])) := chg_set (chg_refl _ _) rfl
  have HR9 := Lib.hid (Kd.R_mono (Kd.R_step (Kd.R_tight rfl HR5.out) (fun j hj hlt => kb.block j hlt (fun e => own_ne HA5.out HR5.out (by rw [← e]; exact hj)))) (fun _ _ => trivial))
  have HV9 := Lib.hid (keys_res HV5.out HA5.out (by decide) kb)
  have HY9 := Lib.hid (show At (w5.setCell ⟨b, 0, none⟩ (.func (.func 25) #[.pointer (some ⟨b, 0, none⟩)] #[])) w.heap.size Z7 28 from (kb.block _ HY5.out.lt hby).trans HY5.out)
  have HZ9 := Lib.hid (show At (w5.setCell ⟨b, 0, none⟩ (.func (.func 25) #[.pointer (some ⟨b, 0, none⟩)] #[])) z #[.int .i64 c.kind, .slice kA kn kc, .int .u32 c.fl, .int .i64 c.ex, .string c.body, .bool c.quiet, .string c.reply] 28 from (kb.block _ HZ5.out.lt hbz).trans HZ5.out)
  have HT9 := Lib.hid (turn_set (i := 0) (v := (.func (.func 25) #[.pointer (some ⟨b, 0, none⟩)] #[])) HT5.out)
  clear kb HA5 HR5 HV5 HY5 HZ5 HT5 e0 f0
  generalize (w5.setCell ⟨b, 0, none⟩ (.func (.func 25) #[.pointer (some ⟨b, 0, none⟩)] #[])) = w9 at *
  have HF9 := Lib.hid (show FeedAt w9 b { s with held := [], c := c, left := 0, tail := 0, cr := false, mode := 3 } (.slice (some ⟨g0, 0, none⟩) 0 c0) from ⟨_, HA9.out, HR9.out, HV9.out⟩)
  have HZa := Lib.hid (at_drew HZ9.out)
  have HYa := Lib.hid (at_drew HY9.out)
  have HFa := Lib.hid (feed_below HF9.out (below_drew (Below.refl _ _)))
  have HVa := Lib.hid (keys_below HV9.out (below_drew (Below.refl _ _)))
  have HTa := Lib.hid (turn_below HT9.out (below_drew (Below.refl _ _)))
  refine start_ (n := 6) (S := fun w' => w'.cell? ⟨z, 0, none⟩ = some (.int .i64 c.kind) ∧ w'.cell? ⟨z, 1, none⟩ = some (.slice kA kn kc) ∧ w'.cell? ⟨z, 2, none⟩ = some (.int .u32 c.fl) ∧ w'.cell? ⟨z, 3, none⟩ = some (.int .i64 c.ex) ∧ w'.cell? ⟨z, 4, none⟩ = some (.string c.body) ∧ w'.cell? ⟨z, 5, none⟩ = some (.bool c.quiet) ∧ w'.cell? ⟨z, 6, none⟩ = some (.string c.reply)) (ds := []) #[false, false, false, false, false, false] (by kernel_rfl) rfl rfl ⟨(At.cell HZa.out 0).trans rfl, (At.cell HZa.out 1).trans rfl, (At.cell HZa.out 2).trans rfl, (At.cell HZa.out 3).trans rfl, (At.cell HZa.out 4).trans rfl, (At.cell HZa.out 5).trans rfl, (At.cell HZa.out 6).trans rfl⟩ (fun hHeld => ?_)
  generalize w9.drew = wa at HZa HYa HFa HVa HTa hHeld ⊢
  obtain ⟨q0, q1, q2, q3, q4, q5, q6, r0, r1, r2, r3, r4, r5, r6⟩ := at7 (show At wa w.heap.size #[.int .i64 0, .slice none 0 0, .int .u32 0, .int .i64 0, .string ⟨#[]⟩, .bool false, .string ⟨#[]⟩] 28 from HYa.out)
  refine pure_ (i := 1) (N := some 106) (v := ?_) (a' := ?_) #[false, true, false, false, false, false] rfl rfl (by kernel_rfl) (fun _ _ _ h => h) (Or.inl ⟨by rfl, ?_⟩) ?_ ?_
  rotate_left
  · intro w'
    go_simp
    with_reducible rfl
  rotate_left
  · simp only [Act.put, List.setIfInBounds_toArray, List.set_cons_zero, List.set_cons_succ, i64_w, i32_w]
    rfl
  refine take_ (i := 0) (N := some 105) (v := ?_) (a' := ?_) #[true, true, false, false, false, false] rfl rfl (by kernel_rfl) (fun _ _ _ h => h) (Or.inl ⟨by rfl, ?_⟩) hHeld ?_ ?_
  rotate_left
  · rintro w' ⟨s0, s1, s2, s3, s4, s5, s6⟩
    go_simp
    with_reducible rfl
  rotate_left
  · simp only [Act.put, List.setIfInBounds_toArray, List.set_cons_zero, List.set_cons_succ, i64_w, i32_w]
    rfl
  refine take_ (i := 2) (N := some 107) (v := ?_) (a' := ?_) #[true, true, true, false, false, false] rfl rfl (by kernel_rfl) (fun _ _ _ h => h) (Or.inl ⟨by rfl, ?_⟩) hHeld ?_ ?_
  rotate_left
  · rintro w' ⟨s0, s1, s2, s3, s4, s5, s6⟩
    go_simp
    with_reducible rfl
  rotate_left
  · simp only [Act.put, List.setIfInBounds_toArray, List.set_cons_zero, List.set_cons_succ, i64_w, i32_w]
    rfl
  refine pure_ (i := 3) (N := some 108) (v := ?_) (a' := ?_) #[true, true, true, true, false, false] rfl rfl (by kernel_rfl) (fun _ _ _ h => h) (Or.inl ⟨by rfl, ?_⟩) ?_ ?_
  rotate_left
  · intro w'
    go_simp
    with_reducible rfl
  rotate_left
  · simp only [Act.put, List.setIfInBounds_toArray, List.set_cons_zero, List.set_cons_succ, i64_w, i32_w]
    rfl
  refine one_ (i := 4) (N := none) #[true, true, true, true, true, false] rfl rfl (by kernel_rfl) (by decide) (fun K hK => ?_)
  have HZb := Lib.hid (at_ne7 (v0 := .int .i64 c.kind) (v1 := .slice kA kn kc) (v2 := .int .u32 c.fl) (v3 := .int .i64 c.ex) (v4 := .string c.body) (v5 := .bool c.quiet) (v6 := .string c.reply) HZa.out hyz.symm)
  refine skip_ (w1 := ?_) (by rfl) rfl ?_ ?_
  rotate_left
  · go_simp
    rfl
  refine hK.out _ _ ⟨(At.cell HZb.out 0).trans rfl, (At.cell HZb.out 1).trans rfl, (At.cell HZb.out 2).trans rfl, (At.cell HZb.out 3).trans rfl, (At.cell HZb.out 4).trans rfl, (At.cell HZb.out 5).trans rfl, (At.cell HZb.out 6).trans rfl⟩ (fun hHeld => ?_)
  clear hK K
  refine pure_ (i := 5) (N := some 5) (v := ?_) (a' := ?_) #[true, true, true, true, true, true] rfl rfl (by kernel_rfl) (fun _ _ _ h => h) (Or.inl ⟨by rfl, ?_⟩) ?_ ?_
  rotate_left
  · intro w'
    go_simp
    with_reducible rfl
  rotate_left
  · simp only [Act.put, List.setIfInBounds_toArray, List.set_cons_zero, List.set_cons_succ, i64_w, i32_w]
    rfl
  refine done_ (by kernel_rfl) ?_
  clear q0 q1 q2 q3 q4 q5 q6 r0 r1 r2 r3 r4 r5 r6
  go_wp2_with (fail)
  refine bodyPost_ret (results_ct (p := 4) (u := 5) (ty := 28) (fn := Tryd.f14) ?h0 _ _ w.heap.size 28 #[.int .i64 c.kind, .slice kA kn kc, .int .u32 c.fl, .int .i64 c.ex, .string c.body, .bool c.quiet, .string c.reply] (0, 0) _ ?h1 ?h2 Tryd.underlying28 rfl (by kernel_rfl)) ?h3 ?h4
  case h0 => rfl
  case h1 => rfl
  case h2 => exact at_put7 HYa.out
  case h3 => rfl
  case h4 => exact ⟨.slice (some ⟨g0, 0, none⟩) 0 c0, .slice kA kn kc, rfl, keys_res HVa.out HYa.out (by decide) (chg_set7 (chg_refl _ _)), feed_res HFa.out HYa.out (chg_set7 (chg_refl _ _)), turn_new7 HTa.out (Nat.le_refl _), .inl (cut0_own (some ⟨g0, 0, none⟩) n0 c0)⟩
set_option maxRecDepth 100000 in
set_option maxHeartbeats 3200000 in
theorem nl_Zr (b : Nat) (s : St) (hv : Value) (c : Cm) (d : Int) (w : World) (h : FeedAt w b s hv) (hl : s.held.length ≤ 100000) (hp : ParseIs s.held c d) (hq : 0 < s.held.length) (h13 : s.held.getLast? = some 13) (hd : d = 0) :
    Calls Tryd.prog 14 #[.pointer (some ⟨b, 0, none⟩), .int .u8 10] w (StepsTo b hv w { s with held := [], c := c, left := d, tail := 0, cr := false, mode := 3 } c (c.kind == 8)) := by
  subst hd
  obtain ⟨kv, ha, hr, hk⟩ := h
  have HL := Lib.hid hl
  obtain ⟨A0, c0, ev⟩ := Kd.R_slice hr
  obtain ⟨n0, hn0⟩ : ∃ n, n = s.held.length := ⟨_, rfl⟩
  rw [← hn0] at ev
  have HN0 := Lib.hid hn0
  clear hn0
  subst ev
  go_enter Tryd.func14, Tryd.ntmps14
  go_upto_region 1 with (fail)
  have HA := Lib.hid (at_alloc (o := .cells Z7 28) ha)
  have HR1 := Lib.hid (Kd.R_alloc hr (.cells Z7 28))
  have HK := Lib.hid (keys_below hk (below_alloc (Below.refl _ _) (.cells Z7 28)))
  have HY := Lib.hid (at_new w Z7 28)
  have HT := Lib.hid (turn_below (turn_refl b (.slice A0 n0 c0) w) (below_alloc (Below.refl _ _) (.cells Z7 28)))
  have hsz : w.heap.size < (w.alloc (.cells Z7 28)).heap.size := by rw [World.size_alloc]; omega
  have hb := ha.lt
  clear ha hr hk hl
  unfold Z7 at HA HR1 HK HY HT hsz
  generalize w.alloc (.cells #[.int .i64 0, .slice none 0 0, .int .u32 0, .int .i64 0, .string ⟨#[]⟩, .bool false, .string ⟨#[]⟩] 28) = w0 at *
  replace HY : Hid (At w0 w.heap.size Z7 28) := HY
  obtain ⟨g0, ev⟩ : ∃ g, A0 = some ⟨g, 0, none⟩ := by
    obtain ⟨g, cap, e, -⟩ := Kd.R_form HR1.out (by omega)
    injection e with e
    exact ⟨g, e⟩
  subst ev
  have c1 : w0.cell? ⟨b, 1, none⟩ = some (.slice (some ⟨g0, 0, none⟩) n0 c0) := HA.out.cell 1
  obtain ⟨y, hy⟩ : ∃ y : Int, y = ((s.held.length - 1 : Nat) : Int) := ⟨_, rfl⟩
  have h7 : (n0 : Int) - 1 = y := by have h8 := HN0.out; omega
  have y1 : (0 : Int) ≤ y := by omega
  have y2 : y < (n0 : Int) := by have := HN0.out; omega
  have y0 : IntKind.i64.wrap ((n0 : Int) - 1) = y := by have h8 := HN0.out; have h9 := HL.out; rw [h7]; exact IntWalk.i64_in y ⟨by omega, by omega⟩
  have y3 : y ≤ (c0 : Int) := by have h8 := (Kd.R_reads' HR1.out).2.1; omega
  have hg : decide ((0 : Int) < (n0 : Int)) = true := decide_eq_true (by omega)
  have hyn : y.toNat + 1 = s.held.length := by omega
  obtain ⟨x0, x1⟩ := Kd.R_celln 0 HR1.out y y1 y2
  have x2 := last_rd s.held hq
  rw [← hy] at x2
  clear h7 hy hq
  rw [h13] at x2
  injection x2 with x2
  rw [← x2] at x0
  have hcv := held_string (Kd.R_take HR1.out (m := y.toNat) (by omega)) (by rw [List.length_take]; omega)
  rw [← lineL_cut s.held y.toNat hyn h13] at hcv
  clear x2 hyn h13
  obtain ⟨TX, hTX⟩ : ∃ t, t = strOfNums (lineL s.held) := ⟨_, rfl⟩
  unfold ParseIs at hp
  rw [← hTX] at hcv hp
  unfold cmV at hp
  have HP := Lib.hid hp
  clear hp hTX
  go_upto_region 12 with (fail)
  go_upto_region 13 with ((with_reducible refine (HP.out _).mono ?_); rintro e w1 ⟨v, rfl, hkv, hb1⟩; obtain ⟨kA, kc, ek, -⟩ := Kd.Q_slice hkv; obtain ⟨kn, hkn⟩ : ∃ n, n = c.keys.length := ⟨_, rfl⟩; rw [← hkn] at ek; clear hkn; subst ek)
  have hz1 := hb1.size
  have hbw := HA.out.lt
  have hyw := HY.out.lt
  have HZ1 := Lib.hid (at_new w1 #[.int .i64 c.kind, .slice kA kn kc, .int .u32 c.fl, .int .i64 c.ex, .string c.body, .bool c.quiet, .string c.reply] 28)
  have HA1 := Lib.hid (at_alloc (o := .cells #[.int .i64 c.kind, .slice kA kn kc, .int .u32 c.fl, .int .i64 c.ex, .string c.body, .bool c.quiet, .string c.reply] 28) (at_below HA.out hb1))
  have HR2 := Lib.hid (Kd.R_alloc (Kd.R_below HR1.out hb1) (.cells #[.int .i64 c.kind, .slice kA kn kc, .int .u32 c.fl, .int .i64 c.ex, .string c.body, .bool c.quiet, .string c.reply] 28))
  have HK1 := Lib.hid (keys_below (keys_below HK.out hb1) (below_alloc (Below.refl _ _) (.cells #[.int .i64 c.kind, .slice kA kn kc, .int .u32 c.fl, .int .i64 c.ex, .string c.body, .bool c.quiet, .string c.reply] 28)))
  have HV1 := Lib.hid (keys_below hkv (below_alloc (Below.refl _ _) (.cells #[.int .i64 c.kind, .slice kA kn kc, .int .u32 c.fl, .int .i64 c.ex, .string c.body, .bool c.quiet, .string c.reply] 28)))
  have HY1 := Lib.hid (at_alloc (o := .cells #[.int .i64 c.kind, .slice kA kn kc, .int .u32 c.fl, .int .i64 c.ex, .string c.body, .bool c.quiet, .string c.reply] 28) (at_below HY.out hb1))
  have HT1 := Lib.hid (turn_below (turn_below HT.out hb1) (below_alloc (Below.refl _ _) (.cells #[.int .i64 c.kind, .slice kA kn kc, .int .u32 c.fl, .int .i64 c.ex, .string c.body, .bool c.quiet, .string c.reply] 28)))
  clear HA HR1 HK HY HT hkv hb1 HP hcv c1 hg x0 x1 y0 y1 y2 y3
  generalize w1.alloc (.cells #[.int .i64 c.kind, .slice kA kn kc, .int .u32 c.fl, .int .i64 c.ex, .string c.body, .bool c.quiet, .string c.reply] 28) = w2 at *
  generalize hz : w1.heap.size = z at *
  have hbz : z ≠ b := by omega
  have hby : w.heap.size ≠ b := by omega
  have hyz : w.heap.size ≠ z := by omega
  have hwz : w.heap.size ≤ z := by omega
  clear hz hz1
  have c1 : w2.cell? ⟨b, 1, none⟩ = some (.slice (some ⟨g0, 0, none⟩) n0 c0) := HA1.out.cell 1
  have f1 := HA1.out.free 1
  go_upto_region 14 with (fail)
  have kb : Chg (fun i => i = b) w2 (w2.setCell ⟨b, 1, none⟩ (.slice (some ⟨g0, 0, none⟩) 0 c0)) := chg_set (chg_refl _ _) rfl
  have HA3 := Lib.hid (show At (w2.setCell ⟨b, 1, none⟩ (.slice (some ⟨g0, 0, none⟩) 0 c0)) b (feedA b { s with held := [] } (.slice (some ⟨g0, 0, none⟩) 0 c0) kv) 42 from at_set' HA1.out rfl)
  have HR3 := Lib.hid (Kd.R_mono (Kd.R_step (Kd.R_tight rfl (R_cut0 HR2.out HN0.out)) (fun j hj hlt => kb.block j hlt (fun e => own_ne HA1.out HR2.out (by rw [← cut0_own (some ⟨g0, 0, none⟩) n0 c0, ← e]; exact hj)))) (fun _ _ => trivial))
  have HK3 := Lib.hid (keys_res HK1.out HA1.out (by decide) kb)
  have HV3 := Lib.hid (keys_res HV1.out HA1.out (by decide) kb)
  have HY3 := Lib.hid (show At (w2.setCell ⟨b, 1, none⟩ (.slice (some ⟨g0, 0, none⟩) 0 c0)) w.heap.size Z7 28 from (kb.block _ HY1.out.lt hby).trans HY1.out)
  have HZ3 := Lib.hid (show At (w2.setCell ⟨b, 1, none⟩ (.slice (some ⟨g0, 0, none⟩) 0 c0)) z #[.int .i64 c.kind, .slice kA kn kc, .int .u32 c.fl, .int .i64 c.ex, .string c.body, .bool c.quiet, .string c.reply] 28 from (kb.block _ HZ1.out.lt hbz).trans HZ1.out)
  have HT3 := Lib.hid (turn_set (i := 1) (v := .slice (some ⟨g0, 0, none⟩) 0 c0) HT1.out)
  clear kb HA1 HR2 HK1 HV1 HY1 HZ1 HT1 c1 f1
  generalize w2.setCell ⟨b, 1, none⟩ (.slice (some ⟨g0, 0, none⟩) 0 c0) = w3 at *
  obtain ⟨t0, t1, t2, t3, t4, t5, t6, -⟩ := at7 HZ3.out
  have e2 : w3.cell? ⟨b, 2, none⟩ = some (.int .i64 s.c.kind) := HA3.out.cell 2
  have e3 : w3.cell? ⟨b, 3, none⟩ = some (kv) := HA3.out.cell 3
  have e4 : w3.cell? ⟨b, 4, none⟩ = some (.int .u32 s.c.fl) := HA3.out.cell 4
  have e5 : w3.cell? ⟨b, 5, none⟩ = some (.int .i64 s.c.ex) := HA3.out.cell 5
  have e6 : w3.cell? ⟨b, 6, none⟩ = some (.string s.c.body) := HA3.out.cell 6
  have e7 : w3.cell? ⟨b, 7, none⟩ = some (.bool s.c.quiet) := HA3.out.cell 7
  have e8 : w3.cell? ⟨b, 8, none⟩ = some (.string s.c.reply) := HA3.out.cell 8
  have e9 : w3.cell? ⟨b, 9, none⟩ = some (.int .i64 s.left) := HA3.out.cell 9
  have e10 : w3.cell? ⟨b, 10, none⟩ = some (.int .i64 s.tail) := HA3.out.cell 10
  have e11 : w3.cell? ⟨b, 11, none⟩ = some (.bool s.cr) := HA3.out.cell 11
  have f2 := HA3.out.free 2
  have f3 := HA3.out.free 3
  have f4 := HA3.out.free 4
  have f5 := HA3.out.free 5
  have f6 := HA3.out.free 6
  have f7 := HA3.out.free 7
  have f8 := HA3.out.free 8
  have f9 := HA3.out.free 9
  have f10 := HA3.out.free 10
  have f11 := HA3.out.free 11
  go_upto_region 16 with (fail)
  have kb : Chg (fun i => i = b) w3 ((((((((((w3.setCell ⟨b, 2, none⟩ (.int .i64 c.kind)).setCell ⟨b, 3, none⟩ (.slice kA kn kc)).setCell ⟨b, 4, none⟩ (.int .u32 c.fl)).setCell ⟨b, 5, none⟩ (.int .i64 c.ex)).setCell ⟨b, 6, none⟩ (.string c.body)).setCell ⟨b, 7, none⟩ (.bool c.quiet)).setCell ⟨b, 8, none⟩ (.string c.reply)).setCell ⟨b, 9, none⟩ (.int .i64 0)).setCell ⟨b, 10, none⟩ (.int .i64 0)).setCell ⟨b, 11, none⟩ (.bool false)) := chg_load (chg_refl _ _)
  have HA4 := Lib.hid (feed_load (c := c) (d := 0) (v := .slice kA kn kc) HA3.out)
  have HR4 := Lib.hid (Kd.R_mono (Kd.R_step (Kd.R_tight rfl HR3.out) (fun j hj hlt => kb.block j hlt (fun e => own_ne HA3.out HR3.out (by rw [← e]; exact hj)))) (fun _ _ => trivial))
  have HV4 := Lib.hid (keys_res HV3.out HA3.out (by decide) kb)
  have HY4 := Lib.hid (show At ((((((((((w3.setCell ⟨b, 2, none⟩ (.int .i64 c.kind)).setCell ⟨b, 3, none⟩ (.slice kA kn kc)).setCell ⟨b, 4, none⟩ (.int .u32 c.fl)).setCell ⟨b, 5, none⟩ (.int .i64 c.ex)).setCell ⟨b, 6, none⟩ (.string c.body)).setCell ⟨b, 7, none⟩ (.bool c.quiet)).setCell ⟨b, 8, none⟩ (.string c.reply)).setCell ⟨b, 9, none⟩ (.int .i64 0)).setCell ⟨b, 10, none⟩ (.int .i64 0)).setCell ⟨b, 11, none⟩ (.bool false)) w.heap.size Z7 28 from (kb.block _ HY3.out.lt hby).trans HY3.out)
  have HZ4 := Lib.hid (show At ((((((((((w3.setCell ⟨b, 2, none⟩ (.int .i64 c.kind)).setCell ⟨b, 3, none⟩ (.slice kA kn kc)).setCell ⟨b, 4, none⟩ (.int .u32 c.fl)).setCell ⟨b, 5, none⟩ (.int .i64 c.ex)).setCell ⟨b, 6, none⟩ (.string c.body)).setCell ⟨b, 7, none⟩ (.bool c.quiet)).setCell ⟨b, 8, none⟩ (.string c.reply)).setCell ⟨b, 9, none⟩ (.int .i64 0)).setCell ⟨b, 10, none⟩ (.int .i64 0)).setCell ⟨b, 11, none⟩ (.bool false)) z #[.int .i64 c.kind, .slice kA kn kc, .int .u32 c.fl, .int .i64 c.ex, .string c.body, .bool c.quiet, .string c.reply] 28 from (kb.block _ HZ3.out.lt hbz).trans HZ3.out)
  have HT4 := Lib.hid (turn_load (c := c) (d := 0) (v := .slice kA kn kc) HT3.out)
  clear kb HA3 HR3 HK3 HV3 HY3 HZ3 HT3 t0 t1 t2 t3 t4 t5 t6 e2 f2 e3 f3 e4 f4 e5 f5 e6 f6 e7 f7 e8 f8 e9 f9 e10 f10 e11 f11
  generalize ((((((((((w3.setCell ⟨b, 2, none⟩ (.int .i64 c.kind)).setCell ⟨b, 3, none⟩ (.slice kA kn kc)).setCell ⟨b, 4, none⟩ (.int .u32 c.fl)).setCell ⟨b, 5, none⟩ (.int .i64 c.ex)).setCell ⟨b, 6, none⟩ (.string c.body)).setCell ⟨b, 7, none⟩ (.bool c.quiet)).setCell ⟨b, 8, none⟩ (.string c.reply)).setCell ⟨b, 9, none⟩ (.int .i64 0)).setCell ⟨b, 10, none⟩ (.int .i64 0)).setCell ⟨b, 11, none⟩ (.bool false)) = w4 at *
  have e0 : w4.cell? ⟨b, 0, none⟩ = some (.func (.func (modeF s.mode)) #[.pointer (some ⟨b, 0, none⟩)] #[]) := HA4.out.cell 0
  have f0 := HA4.out.free 0
  go_upto_region 17 with (fail)
  have HA5 := Lib.hid (show At (w4.setCell ⟨b, 0, none⟩ (.func (.func 24) #[.pointer (some ⟨b, 0, none⟩)] #[])) b (feedA b { s with held := [], c := c, left := 0, tail := 0, cr := false, mode := 2 } (.slice (some ⟨g0, 0, none⟩) 0 c0) (.slice kA kn kc)) 42 from at_set' HA4.out rfl)
  have kb : Chg (fun i => i = b) w4 (w4.setCell ⟨b, 0, none⟩ (.func (.func 24) #[.pointer (some ⟨b, 0, none⟩)] #[])) := chg_set (chg_refl _ _) rfl
  have HR5 := Lib.hid (Kd.R_mono (Kd.R_step (Kd.R_tight rfl HR4.out) (fun j hj hlt => kb.block j hlt (fun e => own_ne HA4.out HR4.out (by rw [← e]; exact hj)))) (fun _ _ => trivial))
  have HV5 := Lib.hid (keys_res HV4.out HA4.out (by decide) kb)
  have HY5 := Lib.hid (show At (w4.setCell ⟨b, 0, none⟩ (.func (.func 24) #[.pointer (some ⟨b, 0, none⟩)] #[])) w.heap.size Z7 28 from (kb.block _ HY4.out.lt hby).trans HY4.out)
  have HZ5 := Lib.hid (show At (w4.setCell ⟨b, 0, none⟩ (.func (.func 24) #[.pointer (some ⟨b, 0, none⟩)] #[])) z #[.int .i64 c.kind, .slice kA kn kc, .int .u32 c.fl, .int .i64 c.ex, .string c.body, .bool c.quiet, .string c.reply] 28 from (kb.block _ HZ4.out.lt hbz).trans HZ4.out)
  have HT5 := Lib.hid (turn_set (i := 0) (v := (.func (.func 24) #[.pointer (some ⟨b, 0, none⟩)] #[])) HT4.out)
  clear kb HA4 HR4 HV4 HY4 HZ4 HT4 e0 f0
  generalize (w4.setCell ⟨b, 0, none⟩ (.func (.func 24) #[.pointer (some ⟨b, 0, none⟩)] #[])) = w5 at *
  have e0 : w5.cell? ⟨b, 0, none⟩ = some (.func (.func 24) #[.pointer (some ⟨b, 0, none⟩)] #[]) := HA5.out.cell 0
  have f0 := HA5.out.free 0
  go_upto_region 19 with (fail)
  have HA9 := Lib.hid (show At (w5.setCell ⟨b, 0, none⟩ (.func (.func 25) #[.pointer (some ⟨b, 0, none⟩)] #[])) b (feedA b { s with held := [], c := c, left := 0, tail := 0, cr := false, mode := 3 } (.slice (some ⟨g0, 0, none⟩) 0 c0) (.slice kA kn kc)) 42 from at_set' HA5.out rfl)
  have kb : Chg (fun i => i = b) w5 (w5.setCell ⟨b, 0, none⟩ (.func (.func 25) #[.pointer (some ⟨b, 0, none⟩)] #[])) := chg_set (chg_refl _ _) rfl
  have HR9 := Lib.hid (Kd.R_mono (Kd.R_step (Kd.R_tight rfl HR5.out) (fun j hj hlt => kb.block j hlt (fun e => own_ne HA5.out HR5.out (by rw [← e]; exact hj)))) (fun _ _ => trivial))
  have HV9 := Lib.hid (keys_res HV5.out HA5.out (by decide) kb)
  have HY9 := Lib.hid (show At (w5.setCell ⟨b, 0, none⟩ (.func (.func 25) #[.pointer (some ⟨b, 0, none⟩)] #[])) w.heap.size Z7 28 from (kb.block _ HY5.out.lt hby).trans HY5.out)
  have HZ9 := Lib.hid (show At (w5.setCell ⟨b, 0, none⟩ (.func (.func 25) #[.pointer (some ⟨b, 0, none⟩)] #[])) z #[.int .i64 c.kind, .slice kA kn kc, .int .u32 c.fl, .int .i64 c.ex, .string c.body, .bool c.quiet, .string c.reply] 28 from (kb.block _ HZ5.out.lt hbz).trans HZ5.out)
  have HT9 := Lib.hid (turn_set (i := 0) (v := (.func (.func 25) #[.pointer (some ⟨b, 0, none⟩)] #[])) HT5.out)
  clear kb HA5 HR5 HV5 HY5 HZ5 HT5 e0 f0
  generalize (w5.setCell ⟨b, 0, none⟩ (.func (.func 25) #[.pointer (some ⟨b, 0, none⟩)] #[])) = w9 at *
  have HF9 := Lib.hid (show FeedAt w9 b { s with held := [], c := c, left := 0, tail := 0, cr := false, mode := 3 } (.slice (some ⟨g0, 0, none⟩) 0 c0) from ⟨_, HA9.out, HR9.out, HV9.out⟩)
  have HZa := Lib.hid (at_drew HZ9.out)
  have HYa := Lib.hid (at_drew HY9.out)
  have HFa := Lib.hid (feed_below HF9.out (below_drew (Below.refl _ _)))
  have HVa := Lib.hid (keys_below HV9.out (below_drew (Below.refl _ _)))
  have HTa := Lib.hid (turn_below HT9.out (below_drew (Below.refl _ _)))
  refine start_ (n := 6) (S := fun w' => w'.cell? ⟨z, 0, none⟩ = some (.int .i64 c.kind) ∧ w'.cell? ⟨z, 1, none⟩ = some (.slice kA kn kc) ∧ w'.cell? ⟨z, 2, none⟩ = some (.int .u32 c.fl) ∧ w'.cell? ⟨z, 3, none⟩ = some (.int .i64 c.ex) ∧ w'.cell? ⟨z, 4, none⟩ = some (.string c.body) ∧ w'.cell? ⟨z, 5, none⟩ = some (.bool c.quiet) ∧ w'.cell? ⟨z, 6, none⟩ = some (.string c.reply)) (ds := []) #[false, false, false, false, false, false] (by kernel_rfl) rfl rfl ⟨(At.cell HZa.out 0).trans rfl, (At.cell HZa.out 1).trans rfl, (At.cell HZa.out 2).trans rfl, (At.cell HZa.out 3).trans rfl, (At.cell HZa.out 4).trans rfl, (At.cell HZa.out 5).trans rfl, (At.cell HZa.out 6).trans rfl⟩ (fun hHeld => ?_)
  generalize w9.drew = wa at HZa HYa HFa HVa HTa hHeld ⊢
  obtain ⟨q0, q1, q2, q3, q4, q5, q6, r0, r1, r2, r3, r4, r5, r6⟩ := at7 (show At wa w.heap.size #[.int .i64 0, .slice none 0 0, .int .u32 0, .int .i64 0, .string ⟨#[]⟩, .bool false, .string ⟨#[]⟩] 28 from HYa.out)
  refine pure_ (i := 1) (N := some 106) (v := ?_) (a' := ?_) #[false, true, false, false, false, false] rfl rfl (by kernel_rfl) (fun _ _ _ h => h) (Or.inl ⟨by rfl, ?_⟩) ?_ ?_
  rotate_left
  · intro w'
    go_simp
    with_reducible rfl
  rotate_left
  · simp only [Act.put, List.setIfInBounds_toArray, List.set_cons_zero, List.set_cons_succ, i64_w, i32_w]
    rfl
  refine take_ (i := 0) (N := some 105) (v := ?_) (a' := ?_) #[true, true, false, false, false, false] rfl rfl (by kernel_rfl) (fun _ _ _ h => h) (Or.inl ⟨by rfl, ?_⟩) hHeld ?_ ?_
  rotate_left
  · rintro w' ⟨s0, s1, s2, s3, s4, s5, s6⟩
    go_simp
    with_reducible rfl
  rotate_left
  · simp only [Act.put, List.setIfInBounds_toArray, List.set_cons_zero, List.set_cons_succ, i64_w, i32_w]
    rfl
  refine take_ (i := 2) (N := some 107) (v := ?_) (a' := ?_) #[true, true, true, false, false, false] rfl rfl (by kernel_rfl) (fun _ _ _ h => h) (Or.inl ⟨by rfl, ?_⟩) hHeld ?_ ?_
  rotate_left
  · rintro w' ⟨s0, s1, s2, s3, s4, s5, s6⟩
    go_simp
    with_reducible rfl
  rotate_left
  · simp only [Act.put, List.setIfInBounds_toArray, List.set_cons_zero, List.set_cons_succ, i64_w, i32_w]
    rfl
  refine pure_ (i := 3) (N := some 108) (v := ?_) (a' := ?_) #[true, true, true, true, false, false] rfl rfl (by kernel_rfl) (fun _ _ _ h => h) (Or.inl ⟨by rfl, ?_⟩) ?_ ?_
  rotate_left
  · intro w'
    go_simp
    with_reducible rfl
  rotate_left
  · simp only [Act.put, List.setIfInBounds_toArray, List.set_cons_zero, List.set_cons_succ, i64_w, i32_w]
    rfl
  refine one_ (i := 4) (N := none) #[true, true, true, true, true, false] rfl rfl (by kernel_rfl) (by decide) (fun K hK => ?_)
  have HZb := Lib.hid (at_ne7 (v0 := .int .i64 c.kind) (v1 := .slice kA kn kc) (v2 := .int .u32 c.fl) (v3 := .int .i64 c.ex) (v4 := .string c.body) (v5 := .bool c.quiet) (v6 := .string c.reply) HZa.out hyz.symm)
  refine skip_ (w1 := ?_) (by rfl) rfl ?_ ?_
  rotate_left
  · go_simp
    rfl
  refine hK.out _ _ ⟨(At.cell HZb.out 0).trans rfl, (At.cell HZb.out 1).trans rfl, (At.cell HZb.out 2).trans rfl, (At.cell HZb.out 3).trans rfl, (At.cell HZb.out 4).trans rfl, (At.cell HZb.out 5).trans rfl, (At.cell HZb.out 6).trans rfl⟩ (fun hHeld => ?_)
  clear hK K
  refine pure_ (i := 5) (N := some 5) (v := ?_) (a' := ?_) #[true, true, true, true, true, true] rfl rfl (by kernel_rfl) (fun _ _ _ h => h) (Or.inl ⟨by rfl, ?_⟩) ?_ ?_
  rotate_left
  · intro w'
    go_simp
    with_reducible rfl
  rotate_left
  · simp only [Act.put, List.setIfInBounds_toArray, List.set_cons_zero, List.set_cons_succ, i64_w, i32_w]
    rfl
  refine done_ (by kernel_rfl) ?_
  clear q0 q1 q2 q3 q4 q5 q6 r0 r1 r2 r3 r4 r5 r6
  go_wp2_with (fail)
  refine bodyPost_ret (results_ct (p := 4) (u := 5) (ty := 28) (fn := Tryd.f14) ?h0 _ _ w.heap.size 28 #[.int .i64 c.kind, .slice kA kn kc, .int .u32 c.fl, .int .i64 c.ex, .string c.body, .bool c.quiet, .string c.reply] (0, 0) _ ?h1 ?h2 Tryd.underlying28 rfl (by kernel_rfl)) ?h3 ?h4
  case h0 => rfl
  case h1 => rfl
  case h2 => exact at_put7 HYa.out
  case h3 => rfl
  case h4 => exact ⟨.slice (some ⟨g0, 0, none⟩) 0 c0, .slice kA kn kc, rfl, keys_res HVa.out HYa.out (by decide) (chg_set7 (chg_refl _ _)), feed_res HFa.out HYa.out (chg_set7 (chg_refl _ _)), turn_new7 HTa.out (Nat.le_refl _), .inl (cut0_own (some ⟨g0, 0, none⟩) n0 c0)⟩
end Go.Proofs.YthinmioognadpaaDoor.Feed

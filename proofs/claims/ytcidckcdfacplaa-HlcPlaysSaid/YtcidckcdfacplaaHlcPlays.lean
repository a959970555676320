/- HlcPlays answers true, where New answers a clock: the walk (own text). -/
import Derived.Test.YtcidckcdfacplaaHlcReads
import Derived.Test.YtcidckcdfacplaaDraw
import Derived.Test.YtcidckcdfacplaaSets
import Derived.Deep.Cut
namespace Go.Proofs.Ytcidckcdfacplaa.Hlc
open Go.RowKit Go.Proofs.Ytcidckcdfacplaa.Mem
set_option linter.unusedVariables false
set_option linter.unusedSimpArgs false
def mA (c : Clk) : Array Value := #[.int .u8 c.node, .int .u64 c.time, .int .u64 c.drift, .bool c.rest, .int .u64 c.start, .int .u64 c.p, .int .u32 c.l, .int .u8 c.n]
theorem s4_start {y : Nat} {c : Clk} {t : TypeId} {W : World} (h : At W y (mA c) t) : W.cell? ⟨y, 1, none⟩ = some (.int .u64 c.time) ∧ W.cell? ⟨y, 5, none⟩ = some (.int .u64 c.p) ∧ W.cell? ⟨y, 6, none⟩ = some (.int .u32 c.l) ∧ W.cell? ⟨y, 7, none⟩ = some (.int .u8 c.n) :=
  ⟨h.cell 1, h.cell 5, h.cell 6, h.cell 7⟩
theorem s4_next {y : Nat} {v1 v5 v6 v7 : Value} {W0 W : World} (h : W0.cell? ⟨y, 1, none⟩ = some v1 ∧ W0.cell? ⟨y, 5, none⟩ = some v5 ∧ W0.cell? ⟨y, 6, none⟩ = some v6 ∧ W0.cell? ⟨y, 7, none⟩ = some v7) (k : Below W0.heap.size W0 W) : W.cell? ⟨y, 1, none⟩ = some v1 ∧ W.cell? ⟨y, 5, none⟩ = some v5 ∧ W.cell? ⟨y, 6, none⟩ = some v6 ∧ W.cell? ⟨y, 7, none⟩ = some v7 := by
  obtain ⟨e0, e1, e2, e3⟩ := h
  have z0 := World.block_lt_of_cell? W0 _ e0
  obtain ⟨hc, hf⟩ := bcell k
  exact ⟨by rw [hc _ _ z0, e0], by rw [hc _ _ z0, e1], by rw [hc _ _ z0, e2], by rw [hc _ _ z0, e3]⟩
set_option maxRecDepth 100000 in
set_option maxHeartbeats 3200000 in
theorem HlcPlays_ok (node time drift : Int) (rest : Bool) (a : Option Addr) (len cap : Nat) (w : World) (n0 : 0 ≤ node) (n1 : node ≤ 255) (t0 : 0 ≤ time) (t1 : time ≤ 18446744073709551615) (hm : mayC node time drift) (ho : OpsAt w a len cap) :
    Calls Try.prog 5 #[.int .u8 node, .int .u64 time, .int .i64 drift, .bool rest, .slice a len cap] w fun e w' => e = .returned (.bool true) ∧ Below w.heap.size w w' := by
  have hg := good_new (rest := rest) hm n0 t0
  obtain ⟨m1, m2, m3, m4⟩ := hm
  have hcl : cutL len ≤ len := by unfold cutL; split <;> omega
  have hcl3 : cutL len ≤ 300 := by unfold cutL; split <;> omega
  generalize hL : cutL len = m at hcl hcl3
  have HL := Lib.hid hL
  clear hL
  have HO := Lib.hid ho
  clear ho
  go_enter Try.func5, Try.ntmps5
  go_wp2_with (fail)
  refine (progNew_ok node time drift rest w n0 m1 t0 m2 m3 m4).mono ?_
  rintro e w1 ⟨rfl, a1, h1, z1⟩
  go_wp2_with (fail)
  refine (refNew_ok node time drift rest w1 n0 m1 t0 m2 m3 m4).mono ?_
  rintro e w2 ⟨rfl, h2⟩
  go_wp2_with (go_at_call 9; (with_reducible refine (fixed_any _).mono ?_); rintro e w3 ⟨rfl, h3⟩)
  have hcut := cut_any a len cap w3 HO.out.1 HO.out.2.1
  rw [HL.out] at hcut
  refine hcut.mono ?_
  rintro e w3' ⟨rfl, rfl⟩
  clear hcut
  have HG := Lib.hid hg
  have hy2 := at_new w2 (mA (newC node time drift rest)) 35
  have HA := Lib.hid (at_below (at_alloc (at_below a1 h2)) h3)
  have HY := Lib.hid (at_below hy2 h3)
  have HB := Lib.hid (below_on (below_al (o := .cells (mA (newC node time drift rest)) 35) (below_on h1 h2)) h3)
  have zy : w.heap.size < w2.heap.size := Nat.lt_of_lt_of_le z1 h2.size
  have zz : w2.heap.size < w3.heap.size := At.lt HY.out
  clear hg a1 h1 h2 h3 hy2 z1
  generalize w2.heap.size = y at *
  go_wp2_with (fail)
  go_loopw [57] (fun v w' => ∃ k : Nat, k ≤ m ∧ v = .int .i64 k ∧ y < w'.heap.size ∧ Hid (∃ c : Clk, Good c ∧ ClkAt w' w.heap.size c ∧ At w' y (mA c) 35) ∧ Hid (Below w.heap.size w w')) (fun v _ => m - (intOf v).toNat)
  case atStart => exact ⟨0, by omega, rfl, zz, Lib.hid ⟨_, HG.out, HA.out, HY.out⟩, HB⟩
  case round =>
    clear HA HB HG HY zz
    obtain ⟨k, hk, rfl, z1, HCC, HB⟩ := hrel
    by_cases hlt : k < m
    · obtain ⟨b, off, kk, mm, p, l, n, rfl, hbw, e0, e1, e2, e3, e4, bk, bm, bp, bl, bn⟩ := ops_at HO.out (show k < len by omega)
      obtain ⟨c, hg, hc, hy⟩ := HCC.out
      have hbc := fun i => HB.out.cell (p := ⟨b, i, none⟩) hbw
      rw [← hbc] at e0 e1 e2 e3 e4
      clear hbc HCC
      have HC := Lib.hid hc
      have HG := Lib.hid hg
      have HY := Lib.hid hy
      clear hc hg hy
      by_cases hk0 : kk = 0
      · subst hk0
        obtain ⟨s1, s2, s3, er, d, hnd⟩ : ∃ s1 s2 s3 er d, nowC c = ((s1, s2, s3), er, d) := ⟨_, _, _, _, _, rfl⟩
        have hn := fun W hc => now_any w.heap.size c W hc HG.out
        have hr := fun W => refNow_any c W HG.out
        have hgd := good_now HG.out
        rw [hnd] at hn hr hgd
        unfold stV refV at hr
        simp only [] at hn hr hgd
        have HNW := Lib.hid hn
        have HRN := Lib.hid hr
        have HG2 := Lib.hid hgd
        clear hn hr hgd hnd HG
        go_wp2_with (fail)
        refine (HNW.out _ (at_alloc HC.out)).mono ?_
        rintro e w1 ⟨rfl, a1, h1⟩
        have HY1 := Lib.hid (at_chg (at_alloc (o := .cells #[.int .i64 0, .int .i64 mm, .int .u64 p, .int .u32 l, .int .u8 n] 40) HY.out) h1 (Nat.ne_of_gt zy))
        have HC1 := Lib.hid a1
        have HB1 := Lib.hid (below_chg (below_al (o := .cells #[.int .i64 0, .int .i64 mm, .int .u64 p, .int .u32 l, .int .u8 n] 40) HB.out) h1 (fun i h => by omega))
        have zw1 : y < w1.heap.size := At.lt HY1.out
        clear a1 h1 HC HY HB
        obtain ⟨y0, y1, y2, y3, y4, y5, y6, y7, -⟩ := at8 HY1.out
        go_wp2_with (fail)
        refine (HRN.out _).mono ?_
        rintro e w2 ⟨rfl, h2⟩
        have zt : (w1.alloc (.cells #[.int .u64 s1, .int .u32 s2, .int .u8 s3] 25)).heap.size = w1.heap.size + 1 := by rw [World.size_alloc]
        have hS2 : At w2 w1.heap.size #[.int .u64 s1, .int .u32 s2, .int .u8 s3] 25 := at_below (at_alloc (at_new w1 _ _)) h2
        have hT2 : At w2 (w1.heap.size + 1) #[.int .u64 0, .int .u32 0, .int .u8 0] 25 := zt ▸ at_below (at_new (w1.alloc (.cells #[.int .u64 s1, .int .u32 s2, .int .u8 s3] 25)) _ _) h2
        have hY2 : At w2 y (mA c) 35 := at_below (at_alloc (at_alloc HY1.out)) h2
        have hC2 : At w2 w.heap.size (clkA d) 60 := at_below (at_alloc (at_alloc HC1.out)) h2
        have HB2 := Lib.hid (below_on (below_al (below_al HB1.out)) h2)
        have zw2 : y < w2.heap.size := At.lt hY2
        clear h2 HY1 HC1 HB1 y0 y1 y2 y3 y4 y5 y6 y7
        obtain ⟨g0, g1, g2, f0, f1, f2⟩ := at3 hT2
        obtain ⟨y0, y1, y2, y3, y4, y5, y6, y7, x0, x1, x2, x3, x4, x5, x6, x7⟩ := at8 hY2
        go_upto_region 18 with (fail)
        have j1 : At (((((((((((w2.setCell ⟨w1.heap.size + 1, 0, none⟩ (.int .u64 s1)).setCell ⟨w1.heap.size + 1, 1, none⟩ (.int .u32 s2)).setCell ⟨w1.heap.size + 1, 2, none⟩ (.int .u8 s3)).setCell ⟨y, 0, none⟩ (.int .u8 d.node)).setCell ⟨y, 1, none⟩ (.int .u64 d.time)).setCell ⟨y, 2, none⟩ (.int .u64 d.drift)).setCell ⟨y, 3, none⟩ (.bool d.rest)).setCell ⟨y, 4, none⟩ (.int .u64 d.start)).setCell ⟨y, 5, none⟩ (.int .u64 d.p)).setCell ⟨y, 6, none⟩ (.int .u32 d.l)).setCell ⟨y, 7, none⟩ (.int .u8 d.n)) w1.heap.size #[.int .u64 s1, .int .u32 s2, .int .u8 s3] 25 := at_set8_ne (at_set3_ne hS2 (by omega)) (by omega)
        have j2 : At (((((((((((w2.setCell ⟨w1.heap.size + 1, 0, none⟩ (.int .u64 s1)).setCell ⟨w1.heap.size + 1, 1, none⟩ (.int .u32 s2)).setCell ⟨w1.heap.size + 1, 2, none⟩ (.int .u8 s3)).setCell ⟨y, 0, none⟩ (.int .u8 d.node)).setCell ⟨y, 1, none⟩ (.int .u64 d.time)).setCell ⟨y, 2, none⟩ (.int .u64 d.drift)).setCell ⟨y, 3, none⟩ (.bool d.rest)).setCell ⟨y, 4, none⟩ (.int .u64 d.start)).setCell ⟨y, 5, none⟩ (.int .u64 d.p)).setCell ⟨y, 6, none⟩ (.int .u32 d.l)).setCell ⟨y, 7, none⟩ (.int .u8 d.n)) (w1.heap.size + 1) #[.int .u64 s1, .int .u32 s2, .int .u8 s3] 25 := at_set8_ne (at_set3 hT2) (by omega)
        have j3 : At (((((((((((w2.setCell ⟨w1.heap.size + 1, 0, none⟩ (.int .u64 s1)).setCell ⟨w1.heap.size + 1, 1, none⟩ (.int .u32 s2)).setCell ⟨w1.heap.size + 1, 2, none⟩ (.int .u8 s3)).setCell ⟨y, 0, none⟩ (.int .u8 d.node)).setCell ⟨y, 1, none⟩ (.int .u64 d.time)).setCell ⟨y, 2, none⟩ (.int .u64 d.drift)).setCell ⟨y, 3, none⟩ (.bool d.rest)).setCell ⟨y, 4, none⟩ (.int .u64 d.start)).setCell ⟨y, 5, none⟩ (.int .u64 d.p)).setCell ⟨y, 6, none⟩ (.int .u32 d.l)).setCell ⟨y, 7, none⟩ (.int .u8 d.n)) y (mA d) 35 := at_set8 (at_set3_ne hY2 (by omega))
        have j4 : At (((((((((((w2.setCell ⟨w1.heap.size + 1, 0, none⟩ (.int .u64 s1)).setCell ⟨w1.heap.size + 1, 1, none⟩ (.int .u32 s2)).setCell ⟨w1.heap.size + 1, 2, none⟩ (.int .u8 s3)).setCell ⟨y, 0, none⟩ (.int .u8 d.node)).setCell ⟨y, 1, none⟩ (.int .u64 d.time)).setCell ⟨y, 2, none⟩ (.int .u64 d.drift)).setCell ⟨y, 3, none⟩ (.bool d.rest)).setCell ⟨y, 4, none⟩ (.int .u64 d.start)).setCell ⟨y, 5, none⟩ (.int .u64 d.p)).setCell ⟨y, 6, none⟩ (.int .u32 d.l)).setCell ⟨y, 7, none⟩ (.int .u8 d.n)) w.heap.size (clkA d) 60 := at_set8_ne (at_set3_ne hC2 (by omega)) (by omega)
        have HB3 := Lib.hid (show Below w.heap.size w (((((((((((w2.setCell ⟨w1.heap.size + 1, 0, none⟩ (.int .u64 s1)).setCell ⟨w1.heap.size + 1, 1, none⟩ (.int .u32 s2)).setCell ⟨w1.heap.size + 1, 2, none⟩ (.int .u8 s3)).setCell ⟨y, 0, none⟩ (.int .u8 d.node)).setCell ⟨y, 1, none⟩ (.int .u64 d.time)).setCell ⟨y, 2, none⟩ (.int .u64 d.drift)).setCell ⟨y, 3, none⟩ (.bool d.rest)).setCell ⟨y, 4, none⟩ (.int .u64 d.start)).setCell ⟨y, 5, none⟩ (.int .u64 d.p)).setCell ⟨y, 6, none⟩ (.int .u32 d.l)).setCell ⟨y, 7, none⟩ (.int .u8 d.n)) from below_set8 (below_set3 HB2.out (by omega)) (by omega))
        clear hS2 hT2 hY2 hC2 HB2 g0 g1 g2 f0 f1 f2 y0 y1 y2 y3 y4 y5 y6 y7 x0 x1 x2 x3 x4 x5 x6 x7
        generalize (((((((((((w2.setCell ⟨w1.heap.size + 1, 0, none⟩ (.int .u64 s1)).setCell ⟨w1.heap.size + 1, 1, none⟩ (.int .u32 s2)).setCell ⟨w1.heap.size + 1, 2, none⟩ (.int .u8 s3)).setCell ⟨y, 0, none⟩ (.int .u8 d.node)).setCell ⟨y, 1, none⟩ (.int .u64 d.time)).setCell ⟨y, 2, none⟩ (.int .u64 d.drift)).setCell ⟨y, 3, none⟩ (.bool d.rest)).setCell ⟨y, 4, none⟩ (.int .u64 d.start)).setCell ⟨y, 5, none⟩ (.int .u64 d.p)).setCell ⟨y, 6, none⟩ (.int .u32 d.l)).setCell ⟨y, 7, none⟩ (.int .u8 d.n)) = W3 at *
        obtain ⟨y0, y1, y2, -⟩ := at3 j1
        obtain ⟨g0, g1, g2, -⟩ := at3 j2
        go_wp2_with (fail)
        clear y0 y1 y2 g0 g1 g2
        refine wp_region_held_drew (S := (fun W => W.cell? ⟨y, 1, none⟩ = some (.int .u64 d.time) ∧ W.cell? ⟨y, 5, none⟩ = some (.int .u64 d.p) ∧ W.cell? ⟨y, 6, none⟩ = some (.int .u32 d.l) ∧ W.cell? ⟨y, 7, none⟩ = some (.int .u8 d.n))) (by kernel_rfl) ?_ (fun hHeld => ?_)
        · (try dsimp only)
          exact s4_start (at_drew j3)
        refine Draw.take_w (i := 0) (v := ?vv1) rfl (by kernel_rfl) (by kernel_rfl) (by kernel_rfl) (fun _ _ _ h => h) (by rfl) ?hy1 (by assumption) ?rest1
        case hy1 => ((intro w hSw); (try dsimp only at hSw); go_simp; (try with_reducible rfl))
        (try simp only [Act.put, List.setIfInBounds_toArray, List.set_cons_zero, List.set_cons_succ])
        refine Draw.take_w (i := 2) (v := ?vv2) rfl (by kernel_rfl) (by kernel_rfl) (by kernel_rfl) (fun _ _ _ h => h) (by rfl) ?hy2 (by assumption) ?rest2
        case hy2 => ((intro w hSw); (try dsimp only at hSw); go_simp; (try with_reducible rfl))
        (try simp only [Act.put, List.setIfInBounds_toArray, List.set_cons_zero, List.set_cons_succ])
        refine Draw.take_w (i := 3) (v := ?vv3) rfl (by kernel_rfl) (by kernel_rfl) (by kernel_rfl) (fun _ _ _ h => h) (by rfl) ?hy3 (by assumption) ?rest3
        case hy3 => ((intro w hSw); (try dsimp only at hSw); go_simp; (try with_reducible rfl))
        (try simp only [Act.put, List.setIfInBounds_toArray, List.set_cons_zero, List.set_cons_succ])
        refine Draw.call_d (i := 1) rfl (by kernel_rfl) (by rfl) (fun K hK => ?_)
        go_simp
        (go_at_call 23; (with_reducible refine (time_b _ d _ ?hcl).mono ?_); (case hcl => ((show At _ _ (clkA d) _); (repeat (first | (with_reducible exact j4) | (with_reducible apply at_drewN) | (with_reducible apply at_drew) | (with_reducible apply at_below (k := by assumption)))))); rintro e w5 ⟨rfl, hb1⟩)
        refine hK.out _ _ ?_ (fun hHeld => ?_)
        · (try dsimp only)
          exact s4_next (by assumption) hb1
        clear hK K
        (try simp only [Act.put, List.setIfInBounds_toArray, List.set_cons_zero, List.set_cons_succ])
        refine Draw.take_w (i := 4) (v := ?vv4) rfl (by kernel_rfl) (by kernel_rfl) (by kernel_rfl) (fun _ _ _ h => h) (by rfl) ?hy4 (by assumption) ?rest4
        case hy4 => ((intro w hSw); (try dsimp only at hSw); go_simp; (try with_reducible rfl))
        (try simp only [Act.put, List.setIfInBounds_toArray, List.set_cons_zero, List.set_cons_succ])
        refine Draw.take_w (i := 5) (v := ?vv5) rfl (by kernel_rfl) (by kernel_rfl) (by kernel_rfl) (fun _ _ _ h => h) (by rfl) ?hy5 (by assumption) ?rest5
        case hy5 => ((intro w hSw); (try dsimp only at hSw); go_simp; (try with_reducible rfl))
        (try simp only [Act.put, List.setIfInBounds_toArray, List.set_cons_zero, List.set_cons_succ])
        refine Draw.take_w (i := 6) (v := ?vv6) rfl (by kernel_rfl) (by kernel_rfl) (by kernel_rfl) (fun _ _ _ h => h) (by rfl) ?hy6 (by assumption) ?rest6
        case hy6 => ((intro w hSw); (try dsimp only at hSw); go_simp; (try with_reducible rfl))
        (try simp only [Act.put, List.setIfInBounds_toArray, List.set_cons_zero, List.set_cons_succ])
        refine Draw.take_w (i := 8) (v := ?vv7) rfl (by kernel_rfl) (by kernel_rfl) (by kernel_rfl) (fun _ _ _ h => h) (by rfl) ?hy7 (by assumption) ?rest7
        case hy7 => ((intro w hSw); (try dsimp only at hSw); go_simp; (try with_reducible rfl))
        (try simp only [Act.put, List.setIfInBounds_toArray, List.set_cons_zero, List.set_cons_succ])
        refine Draw.take_w (i := 9) (v := ?vv8) rfl (by kernel_rfl) (by kernel_rfl) (by kernel_rfl) (fun _ _ _ h => h) (by rfl) ?hy8 (by assumption) ?rest8
        case hy8 => ((intro w hSw); (try dsimp only at hSw); go_simp; (try with_reducible rfl))
        (try simp only [Act.put, List.setIfInBounds_toArray, List.set_cons_zero, List.set_cons_succ])
        refine Draw.call_d (i := 7) rfl (by kernel_rfl) (by rfl) (fun K hK => ?_)
        go_simp
        (go_at_call 15; (with_reducible refine (last_b _ d _ ?hcl).mono ?_); (case hcl => ((show At _ _ (clkA d) _); (repeat (first | (with_reducible exact j4) | (with_reducible apply at_drewN) | (with_reducible apply at_drew) | (with_reducible apply at_below (k := by assumption)))))); rintro e w6 ⟨rfl, hb1⟩)
        refine hK.out _ _ ?_ (fun hHeld => ?_)
        · (try dsimp only)
          exact s4_next (by assumption) hb1
        clear hK K
        (try simp only [Act.put, List.setIfInBounds_toArray, List.set_cons_zero, List.set_cons_succ])
        refine Draw.take_w (i := 10) (v := ?vv9) rfl (by kernel_rfl) (by kernel_rfl) (by kernel_rfl) (fun _ _ _ h => h) (by rfl) ?hy9 (by assumption) ?rest9
        case hy9 => ((intro w hSw); (try dsimp only at hSw); go_simp; (try with_reducible rfl))
        (try simp only [Act.put, List.setIfInBounds_toArray, List.set_cons_zero, List.set_cons_succ])
        refine Draw.take_w (i := 11) (v := ?vv10) rfl (by kernel_rfl) (by kernel_rfl) (by kernel_rfl) (fun _ _ _ h => h) (by rfl) ?hy10 (by assumption) ?rest10
        case hy10 => ((intro w hSw); (try dsimp only at hSw); go_simp; (try with_reducible rfl))
        (try simp only [Act.put, List.setIfInBounds_toArray, List.set_cons_zero, List.set_cons_succ])
        refine wpAnyH_done (by kernel_rfl) ?_ _
        go_wp2_with (fail)
        go_roundw
        case rel =>
          refine ⟨k + 1, by omega, by go_num, ?_, ?_, ?_⟩
          · refine At.lt (b := y) (cs := mA d) (t := 35) ?_
            (repeat (first | (with_reducible exact j3) | (with_reducible apply at_drewN) | (with_reducible apply at_drew) | (with_reducible apply at_below (k := by assumption))))
          · refine Lib.hid ⟨d, HG2.out, (show At _ _ (clkA d) _ from ?_), ?_⟩
            · (repeat (first | (with_reducible exact j4) | (with_reducible apply at_drewN) | (with_reducible apply at_drew) | (with_reducible apply at_below (k := by assumption))))
            · (repeat (first | (with_reducible exact j3) | (with_reducible apply at_drewN) | (with_reducible apply at_drew) | (with_reducible apply at_below (k := by assumption))))
          · refine Lib.hid ?_
            (repeat (first | (with_reducible exact HB3.out) | (with_reducible apply below_dn) | (with_reducible apply Below.drew) | (with_reducible apply below_al) | (with_reducible refine below_on ?_ (by assumption))))
        case measure => simp [intOf]; omega
      by_cases hk1 : kk = 1
      · subst hk1
        obtain ⟨er, d, hnd⟩ : ∃ er d, seeC c p l n = (er, d) := ⟨_, _, rfl⟩
        have hn := fun W hc => see_any w.heap.size c p l n W hc HG.out bp.1 bp.2 bl.1 bl.2 bn.1 bn.2
        have hr := fun W => refSee_any c p l n W HG.out bp.1 bp.2 bl.1 bl.2 bn.1 bn.2
        have hgd := good_see (c := c) (p := p) (l := l) (n := n) HG.out bp.1 bl.1 bl.2 bn.1
        rw [hnd] at hn hr hgd
        unfold refV at hr
        simp only [] at hn hr hgd
        have HNW := Lib.hid hn
        have HRN := Lib.hid hr
        have HG2 := Lib.hid hgd
        clear hn hr hgd hnd HG hk0
        obtain ⟨y0, y1, y2, y3, y4, y5, y6, y7, -⟩ := at8 HY.out
        go_wp2_with (fail)
        refine (HRN.out _).mono ?_
        rintro e w2 ⟨rfl, h2⟩
        have hO2 : At w2 wr.heap.size #[.int .i64 1, .int .i64 mm, .int .u64 p, .int .u32 l, .int .u8 n] 40 := at_below (at_new wr _ _) h2
        have hY2 : At w2 y (mA c) 35 := at_below (at_alloc HY.out) h2
        have hC2 : At w2 w.heap.size (clkA c) 60 := at_below (at_alloc HC.out) h2
        have HB2 := Lib.hid (below_on (below_al HB.out) h2)
        have zw2 : y < w2.heap.size := At.lt hY2
        clear h2 HY HC HB y0 y1 y2 y3 y4 y5 y6 y7
        obtain ⟨y0, y1, y2, y3, y4, y5, y6, y7, x0, x1, x2, x3, x4, x5, x6, x7⟩ := at8 hY2
        go_upto_region 23 with (fail)
        have j1 : At ((((((((w2.setCell ⟨y, 0, none⟩ (.int .u8 d.node)).setCell ⟨y, 1, none⟩ (.int .u64 d.time)).setCell ⟨y, 2, none⟩ (.int .u64 d.drift)).setCell ⟨y, 3, none⟩ (.bool d.rest)).setCell ⟨y, 4, none⟩ (.int .u64 d.start)).setCell ⟨y, 5, none⟩ (.int .u64 d.p)).setCell ⟨y, 6, none⟩ (.int .u32 d.l)).setCell ⟨y, 7, none⟩ (.int .u8 d.n)) wr.heap.size #[.int .i64 1, .int .i64 mm, .int .u64 p, .int .u32 l, .int .u8 n] 40 := at_set8_ne hO2 (by omega)
        have j3 : At ((((((((w2.setCell ⟨y, 0, none⟩ (.int .u8 d.node)).setCell ⟨y, 1, none⟩ (.int .u64 d.time)).setCell ⟨y, 2, none⟩ (.int .u64 d.drift)).setCell ⟨y, 3, none⟩ (.bool d.rest)).setCell ⟨y, 4, none⟩ (.int .u64 d.start)).setCell ⟨y, 5, none⟩ (.int .u64 d.p)).setCell ⟨y, 6, none⟩ (.int .u32 d.l)).setCell ⟨y, 7, none⟩ (.int .u8 d.n)) y (mA d) 35 := at_set8 hY2
        have j4 : At ((((((((w2.setCell ⟨y, 0, none⟩ (.int .u8 d.node)).setCell ⟨y, 1, none⟩ (.int .u64 d.time)).setCell ⟨y, 2, none⟩ (.int .u64 d.drift)).setCell ⟨y, 3, none⟩ (.bool d.rest)).setCell ⟨y, 4, none⟩ (.int .u64 d.start)).setCell ⟨y, 5, none⟩ (.int .u64 d.p)).setCell ⟨y, 6, none⟩ (.int .u32 d.l)).setCell ⟨y, 7, none⟩ (.int .u8 d.n)) w.heap.size (clkA c) 60 := at_set8_ne hC2 (by omega)
        have HB3 := Lib.hid (show Below w.heap.size w ((((((((w2.setCell ⟨y, 0, none⟩ (.int .u8 d.node)).setCell ⟨y, 1, none⟩ (.int .u64 d.time)).setCell ⟨y, 2, none⟩ (.int .u64 d.drift)).setCell ⟨y, 3, none⟩ (.bool d.rest)).setCell ⟨y, 4, none⟩ (.int .u64 d.start)).setCell ⟨y, 5, none⟩ (.int .u64 d.p)).setCell ⟨y, 6, none⟩ (.int .u32 d.l)).setCell ⟨y, 7, none⟩ (.int .u8 d.n)) from below_set8 HB2.out (by omega))
        clear hO2 hY2 hC2 HB2 y0 y1 y2 y3 y4 y5 y6 y7 x0 x1 x2 x3 x4 x5 x6 x7
        generalize ((((((((w2.setCell ⟨y, 0, none⟩ (.int .u8 d.node)).setCell ⟨y, 1, none⟩ (.int .u64 d.time)).setCell ⟨y, 2, none⟩ (.int .u64 d.drift)).setCell ⟨y, 3, none⟩ (.bool d.rest)).setCell ⟨y, 4, none⟩ (.int .u64 d.start)).setCell ⟨y, 5, none⟩ (.int .u64 d.p)).setCell ⟨y, 6, none⟩ (.int .u32 d.l)).setCell ⟨y, 7, none⟩ (.int .u8 d.n)) = W3 at *
        obtain ⟨-, -, g2, g3, g4, -⟩ := at5 j1
        go_wp2_with (fail)
        refine (HNW.out _ j4).mono ?_
        rintro e w4 ⟨rfl, a4, h4⟩
        replace j3 := at_chg j3 h4 (Nat.ne_of_gt zy)
        replace j4 : At w4 w.heap.size (clkA d) 60 := a4
        replace HB3 := Lib.hid (below_chg HB3.out h4 (fun i h => by omega))
        clear a4 h4 j1 g2 g3 g4
        go_wp2_with (fail)
        refine wp_region_held_drew (S := (fun W => W.cell? ⟨y, 1, none⟩ = some (.int .u64 d.time) ∧ W.cell? ⟨y, 5, none⟩ = some (.int .u64 d.p) ∧ W.cell? ⟨y, 6, none⟩ = some (.int .u32 d.l) ∧ W.cell? ⟨y, 7, none⟩ = some (.int .u8 d.n))) (by kernel_rfl) ?_ (fun hHeld => ?_)
        · (try dsimp only)
          exact s4_start (at_drew j3)
        refine Draw.take_w (i := 0) (v := ?vv1x1) rfl (by kernel_rfl) (by kernel_rfl) (by kernel_rfl) (fun _ _ _ h => h) (by rfl) ?hy1x1 (by assumption) ?rest1x1
        case hy1x1 => ((intro w hSw); (try dsimp only at hSw); go_simp; (try with_reducible rfl))
        (try simp only [Act.put, List.setIfInBounds_toArray, List.set_cons_zero, List.set_cons_succ])
        refine Draw.take_w (i := 2) (v := ?vv2x1) rfl (by kernel_rfl) (by kernel_rfl) (by kernel_rfl) (fun _ _ _ h => h) (by rfl) ?hy2x1 (by assumption) ?rest2x1
        case hy2x1 => ((intro w hSw); (try dsimp only at hSw); go_simp; (try with_reducible rfl))
        (try simp only [Act.put, List.setIfInBounds_toArray, List.set_cons_zero, List.set_cons_succ])
        refine Draw.take_w (i := 3) (v := ?vv3x1) rfl (by kernel_rfl) (by kernel_rfl) (by kernel_rfl) (fun _ _ _ h => h) (by rfl) ?hy3x1 (by assumption) ?rest3x1
        case hy3x1 => ((intro w hSw); (try dsimp only at hSw); go_simp; (try with_reducible rfl))
        (try simp only [Act.put, List.setIfInBounds_toArray, List.set_cons_zero, List.set_cons_succ])
        refine Draw.call_d (i := 1) rfl (by kernel_rfl) (by rfl) (fun K hK => ?_)
        go_simp
        (go_at_call 23; (with_reducible refine (time_b _ d _ ?hcl).mono ?_); (case hcl => ((show At _ _ (clkA d) _); (repeat (first | (with_reducible exact j4) | (with_reducible apply at_drewN) | (with_reducible apply at_drew) | (with_reducible apply at_below (k := by assumption)))))); rintro e w5 ⟨rfl, hb1⟩)
        refine hK.out _ _ ?_ (fun hHeld => ?_)
        · (try dsimp only)
          exact s4_next (by assumption) hb1
        clear hK K
        (try simp only [Act.put, List.setIfInBounds_toArray, List.set_cons_zero, List.set_cons_succ])
        refine Draw.take_w (i := 4) (v := ?vv4x1) rfl (by kernel_rfl) (by kernel_rfl) (by kernel_rfl) (fun _ _ _ h => h) (by rfl) ?hy4x1 (by assumption) ?rest4x1
        case hy4x1 => ((intro w hSw); (try dsimp only at hSw); go_simp; (try with_reducible rfl))
        (try simp only [Act.put, List.setIfInBounds_toArray, List.set_cons_zero, List.set_cons_succ])
        refine Draw.take_w (i := 5) (v := ?vv5x1) rfl (by kernel_rfl) (by kernel_rfl) (by kernel_rfl) (fun _ _ _ h => h) (by rfl) ?hy5x1 (by assumption) ?rest5x1
        case hy5x1 => ((intro w hSw); (try dsimp only at hSw); go_simp; (try with_reducible rfl))
        (try simp only [Act.put, List.setIfInBounds_toArray, List.set_cons_zero, List.set_cons_succ])
        refine Draw.take_w (i := 6) (v := ?vv6x1) rfl (by kernel_rfl) (by kernel_rfl) (by kernel_rfl) (fun _ _ _ h => h) (by rfl) ?hy6x1 (by assumption) ?rest6x1
        case hy6x1 => ((intro w hSw); (try dsimp only at hSw); go_simp; (try with_reducible rfl))
        (try simp only [Act.put, List.setIfInBounds_toArray, List.set_cons_zero, List.set_cons_succ])
        refine Draw.take_w (i := 8) (v := ?vv7x1) rfl (by kernel_rfl) (by kernel_rfl) (by kernel_rfl) (fun _ _ _ h => h) (by rfl) ?hy7x1 (by assumption) ?rest7x1
        case hy7x1 => ((intro w hSw); (try dsimp only at hSw); go_simp; (try with_reducible rfl))
        (try simp only [Act.put, List.setIfInBounds_toArray, List.set_cons_zero, List.set_cons_succ])
        refine Draw.take_w (i := 9) (v := ?vv8x1) rfl (by kernel_rfl) (by kernel_rfl) (by kernel_rfl) (fun _ _ _ h => h) (by rfl) ?hy8x1 (by assumption) ?rest8x1
        case hy8x1 => ((intro w hSw); (try dsimp only at hSw); go_simp; (try with_reducible rfl))
        (try simp only [Act.put, List.setIfInBounds_toArray, List.set_cons_zero, List.set_cons_succ])
        refine Draw.call_d (i := 7) rfl (by kernel_rfl) (by rfl) (fun K hK => ?_)
        go_simp
        (go_at_call 15; (with_reducible refine (last_b _ d _ ?hcl).mono ?_); (case hcl => ((show At _ _ (clkA d) _); (repeat (first | (with_reducible exact j4) | (with_reducible apply at_drewN) | (with_reducible apply at_drew) | (with_reducible apply at_below (k := by assumption)))))); rintro e w6 ⟨rfl, hb1⟩)
        refine hK.out _ _ ?_ (fun hHeld => ?_)
        · (try dsimp only)
          exact s4_next (by assumption) hb1
        clear hK K
        (try simp only [Act.put, List.setIfInBounds_toArray, List.set_cons_zero, List.set_cons_succ])
        refine Draw.take_w (i := 10) (v := ?vv9x1) rfl (by kernel_rfl) (by kernel_rfl) (by kernel_rfl) (fun _ _ _ h => h) (by rfl) ?hy9x1 (by assumption) ?rest9x1
        case hy9x1 => ((intro w hSw); (try dsimp only at hSw); go_simp; (try with_reducible rfl))
        (try simp only [Act.put, List.setIfInBounds_toArray, List.set_cons_zero, List.set_cons_succ])
        refine Draw.take_w (i := 11) (v := ?vv10x1) rfl (by kernel_rfl) (by kernel_rfl) (by kernel_rfl) (fun _ _ _ h => h) (by rfl) ?hy10x1 (by assumption) ?rest10x1
        case hy10x1 => ((intro w hSw); (try dsimp only at hSw); go_simp; (try with_reducible rfl))
        (try simp only [Act.put, List.setIfInBounds_toArray, List.set_cons_zero, List.set_cons_succ])
        refine wpAnyH_done (by kernel_rfl) ?_ _
        go_wp2_with (fail)
        go_roundw
        case rel =>
          refine ⟨k + 1, by omega, by go_num, ?_, ?_, ?_⟩
          · refine At.lt (b := y) (cs := mA d) (t := 35) ?_
            (repeat (first | (with_reducible exact j3) | (with_reducible apply at_drewN) | (with_reducible apply at_drew) | (with_reducible apply at_below (k := by assumption))))
          · refine Lib.hid ⟨d, HG2.out, (show At _ _ (clkA d) _ from ?_), ?_⟩
            · (repeat (first | (with_reducible exact j4) | (with_reducible apply at_drewN) | (with_reducible apply at_drew) | (with_reducible apply at_below (k := by assumption))))
            · (repeat (first | (with_reducible exact j3) | (with_reducible apply at_drewN) | (with_reducible apply at_drew) | (with_reducible apply at_below (k := by assumption))))
          · refine Lib.hid ?_
            (repeat (first | (with_reducible exact HB3.out) | (with_reducible apply below_dn) | (with_reducible apply Below.drew) | (with_reducible apply below_al) | (with_reducible refine below_on ?_ (by assumption))))
        case measure => simp [intOf]; omega
      have c0 : (kk == 0) = false := by simpa using hk0
      have c1 : (kk == 1) = false := by simpa using hk1
      clear hk0 hk1
      have hn := fun W hc => pass_any w.heap.size c mm W hc HG.out bm.2
      have hr := fun W => refPass_any c mm W HG.out bm.2
      have hgd := good_pass HG.out mm
      unfold refV at hr
      generalize passC c mm = d at hn hr hgd
      have HNW := Lib.hid hn
      have HRN := Lib.hid hr
      have HG2 := Lib.hid hgd
      clear hn hr hgd HG
      go_wp2_with (fail)
      refine (HNW.out _ (at_alloc HC.out)).mono ?_
      rintro e w1 ⟨rfl, a1, h1⟩
      have HY1 := Lib.hid (at_chg (at_alloc (o := .cells #[.int .i64 kk, .int .i64 mm, .int .u64 p, .int .u32 l, .int .u8 n] 40) HY.out) h1 (Nat.ne_of_gt zy))
      have HO1 := Lib.hid (at_chg (at_new wr #[.int .i64 kk, .int .i64 mm, .int .u64 p, .int .u32 l, .int .u8 n] 40) h1 (Nat.ne_of_gt (Nat.lt_trans zy z1)))
      have HC1 := Lib.hid a1
      have HB1 := Lib.hid (below_chg (below_al (o := .cells #[.int .i64 kk, .int .i64 mm, .int .u64 p, .int .u32 l, .int .u8 n] 40) HB.out) h1 (fun i h => by omega))
      have zw1 : y < w1.heap.size := At.lt HY1.out
      clear a1 h1 HC HY HB
      obtain ⟨y0, y1, y2, y3, y4, y5, y6, y7, -⟩ := at8 HY1.out
      obtain ⟨-, g1, -⟩ := at5 HO1.out
      go_wp2_with (fail)
      refine (HRN.out _).mono ?_
      rintro e w2 ⟨rfl, h2⟩
      have hY2 : At w2 y (mA c) 35 := at_below HY1.out h2
      have hC2 : At w2 w.heap.size (clkA d) 60 := at_below HC1.out h2
      have HB2 := Lib.hid (below_on HB1.out h2)
      have zw2 : y < w2.heap.size := At.lt hY2
      clear h2 HY1 HC1 HB1 HO1 y0 y1 y2 y3 y4 y5 y6 y7 g1
      obtain ⟨y0, y1, y2, y3, y4, y5, y6, y7, x0, x1, x2, x3, x4, x5, x6, x7⟩ := at8 hY2
      go_wp2_with (fail)
      have j3 : At ((((((((w2.setCell ⟨y, 0, none⟩ (.int .u8 d.node)).setCell ⟨y, 1, none⟩ (.int .u64 d.time)).setCell ⟨y, 2, none⟩ (.int .u64 d.drift)).setCell ⟨y, 3, none⟩ (.bool d.rest)).setCell ⟨y, 4, none⟩ (.int .u64 d.start)).setCell ⟨y, 5, none⟩ (.int .u64 d.p)).setCell ⟨y, 6, none⟩ (.int .u32 d.l)).setCell ⟨y, 7, none⟩ (.int .u8 d.n)) y (mA d) 35 := at_set8 hY2
      have j4 : At ((((((((w2.setCell ⟨y, 0, none⟩ (.int .u8 d.node)).setCell ⟨y, 1, none⟩ (.int .u64 d.time)).setCell ⟨y, 2, none⟩ (.int .u64 d.drift)).setCell ⟨y, 3, none⟩ (.bool d.rest)).setCell ⟨y, 4, none⟩ (.int .u64 d.start)).setCell ⟨y, 5, none⟩ (.int .u64 d.p)).setCell ⟨y, 6, none⟩ (.int .u32 d.l)).setCell ⟨y, 7, none⟩ (.int .u8 d.n)) w.heap.size (clkA d) 60 := at_set8_ne hC2 (by omega)
      have HB3 := Lib.hid (show Below w.heap.size w ((((((((w2.setCell ⟨y, 0, none⟩ (.int .u8 d.node)).setCell ⟨y, 1, none⟩ (.int .u64 d.time)).setCell ⟨y, 2, none⟩ (.int .u64 d.drift)).setCell ⟨y, 3, none⟩ (.bool d.rest)).setCell ⟨y, 4, none⟩ (.int .u64 d.start)).setCell ⟨y, 5, none⟩ (.int .u64 d.p)).setCell ⟨y, 6, none⟩ (.int .u32 d.l)).setCell ⟨y, 7, none⟩ (.int .u8 d.n)) from below_set8 HB2.out (by omega))
      clear hY2 hC2 HB2 y0 y1 y2 y3 y4 y5 y6 y7 x0 x1 x2 x3 x4 x5 x6 x7
      generalize ((((((((w2.setCell ⟨y, 0, none⟩ (.int .u8 d.node)).setCell ⟨y, 1, none⟩ (.int .u64 d.time)).setCell ⟨y, 2, none⟩ (.int .u64 d.drift)).setCell ⟨y, 3, none⟩ (.bool d.rest)).setCell ⟨y, 4, none⟩ (.int .u64 d.start)).setCell ⟨y, 5, none⟩ (.int .u64 d.p)).setCell ⟨y, 6, none⟩ (.int .u32 d.l)).setCell ⟨y, 7, none⟩ (.int .u8 d.n)) = W3 at *
      refine wp_region_held_drew (S := (fun W => W.cell? ⟨y, 1, none⟩ = some (.int .u64 d.time) ∧ W.cell? ⟨y, 5, none⟩ = some (.int .u64 d.p) ∧ W.cell? ⟨y, 6, none⟩ = some (.int .u32 d.l) ∧ W.cell? ⟨y, 7, none⟩ = some (.int .u8 d.n))) (by kernel_rfl) ?_ (fun hHeld => ?_)
      · (try dsimp only)
        exact s4_start (at_drew j3)
      refine Draw.take_w (i := 0) (v := ?vv1x2) rfl (by kernel_rfl) (by kernel_rfl) (by kernel_rfl) (fun _ _ _ h => h) (by rfl) ?hy1x2 (by assumption) ?rest1x2
      case hy1x2 => ((intro w hSw); (try dsimp only at hSw); go_simp; (try with_reducible rfl))
      (try simp only [Act.put, List.setIfInBounds_toArray, List.set_cons_zero, List.set_cons_succ])
      refine Draw.take_w (i := 2) (v := ?vv2x2) rfl (by kernel_rfl) (by kernel_rfl) (by kernel_rfl) (fun _ _ _ h => h) (by rfl) ?hy2x2 (by assumption) ?rest2x2
      case hy2x2 => ((intro w hSw); (try dsimp only at hSw); go_simp; (try with_reducible rfl))
      (try simp only [Act.put, List.setIfInBounds_toArray, List.set_cons_zero, List.set_cons_succ])
      refine Draw.take_w (i := 3) (v := ?vv3x2) rfl (by kernel_rfl) (by kernel_rfl) (by kernel_rfl) (fun _ _ _ h => h) (by rfl) ?hy3x2 (by assumption) ?rest3x2
      case hy3x2 => ((intro w hSw); (try dsimp only at hSw); go_simp; (try with_reducible rfl))
      (try simp only [Act.put, List.setIfInBounds_toArray, List.set_cons_zero, List.set_cons_succ])
      refine Draw.call_d (i := 1) rfl (by kernel_rfl) (by rfl) (fun K hK => ?_)
      go_simp
      (go_at_call 23; (with_reducible refine (time_b _ d _ ?hcl).mono ?_); (case hcl => ((show At _ _ (clkA d) _); (repeat (first | (with_reducible exact j4) | (with_reducible apply at_drewN) | (with_reducible apply at_drew) | (with_reducible apply at_below (k := by assumption)))))); rintro e w5 ⟨rfl, hb1⟩)
      refine hK.out _ _ ?_ (fun hHeld => ?_)
      · (try dsimp only)
        exact s4_next (by assumption) hb1
      clear hK K
      (try simp only [Act.put, List.setIfInBounds_toArray, List.set_cons_zero, List.set_cons_succ])
      refine Draw.take_w (i := 4) (v := ?vv4x2) rfl (by kernel_rfl) (by kernel_rfl) (by kernel_rfl) (fun _ _ _ h => h) (by rfl) ?hy4x2 (by assumption) ?rest4x2
      case hy4x2 => ((intro w hSw); (try dsimp only at hSw); go_simp; (try with_reducible rfl))
      (try simp only [Act.put, List.setIfInBounds_toArray, List.set_cons_zero, List.set_cons_succ])
      refine Draw.take_w (i := 5) (v := ?vv5x2) rfl (by kernel_rfl) (by kernel_rfl) (by kernel_rfl) (fun _ _ _ h => h) (by rfl) ?hy5x2 (by assumption) ?rest5x2
      case hy5x2 => ((intro w hSw); (try dsimp only at hSw); go_simp; (try with_reducible rfl))
      (try simp only [Act.put, List.setIfInBounds_toArray, List.set_cons_zero, List.set_cons_succ])
      refine Draw.take_w (i := 6) (v := ?vv6x2) rfl (by kernel_rfl) (by kernel_rfl) (by kernel_rfl) (fun _ _ _ h => h) (by rfl) ?hy6x2 (by assumption) ?rest6x2
      case hy6x2 => ((intro w hSw); (try dsimp only at hSw); go_simp; (try with_reducible rfl))
      (try simp only [Act.put, List.setIfInBounds_toArray, List.set_cons_zero, List.set_cons_succ])
      refine Draw.take_w (i := 8) (v := ?vv7x2) rfl (by kernel_rfl) (by kernel_rfl) (by kernel_rfl) (fun _ _ _ h => h) (by rfl) ?hy7x2 (by assumption) ?rest7x2
      case hy7x2 => ((intro w hSw); (try dsimp only at hSw); go_simp; (try with_reducible rfl))
      (try simp only [Act.put, List.setIfInBounds_toArray, List.set_cons_zero, List.set_cons_succ])
      refine Draw.take_w (i := 9) (v := ?vv8x2) rfl (by kernel_rfl) (by kernel_rfl) (by kernel_rfl) (fun _ _ _ h => h) (by rfl) ?hy8x2 (by assumption) ?rest8x2
      case hy8x2 => ((intro w hSw); (try dsimp only at hSw); go_simp; (try with_reducible rfl))
      (try simp only [Act.put, List.setIfInBounds_toArray, List.set_cons_zero, List.set_cons_succ])
      refine Draw.call_d (i := 7) rfl (by kernel_rfl) (by rfl) (fun K hK => ?_)
      go_simp
      (go_at_call 15; (with_reducible refine (last_b _ d _ ?hcl).mono ?_); (case hcl => ((show At _ _ (clkA d) _); (repeat (first | (with_reducible exact j4) | (with_reducible apply at_drewN) | (with_reducible apply at_drew) | (with_reducible apply at_below (k := by assumption)))))); rintro e w6 ⟨rfl, hb1⟩)
      refine hK.out _ _ ?_ (fun hHeld => ?_)
      · (try dsimp only)
        exact s4_next (by assumption) hb1
      clear hK K
      (try simp only [Act.put, List.setIfInBounds_toArray, List.set_cons_zero, List.set_cons_succ])
      refine Draw.take_w (i := 10) (v := ?vv9x2) rfl (by kernel_rfl) (by kernel_rfl) (by kernel_rfl) (fun _ _ _ h => h) (by rfl) ?hy9x2 (by assumption) ?rest9x2
      case hy9x2 => ((intro w hSw); (try dsimp only at hSw); go_simp; (try with_reducible rfl))
      (try simp only [Act.put, List.setIfInBounds_toArray, List.set_cons_zero, List.set_cons_succ])
      refine Draw.take_w (i := 11) (v := ?vv10x2) rfl (by kernel_rfl) (by kernel_rfl) (by kernel_rfl) (fun _ _ _ h => h) (by rfl) ?hy10x2 (by assumption) ?rest10x2
      case hy10x2 => ((intro w hSw); (try dsimp only at hSw); go_simp; (try with_reducible rfl))
      (try simp only [Act.put, List.setIfInBounds_toArray, List.set_cons_zero, List.set_cons_succ])
      refine wpAnyH_done (by kernel_rfl) ?_ _
      go_wp2_with (fail)
      go_roundw
      case rel =>
        refine ⟨k + 1, by omega, by go_num, ?_, ?_, ?_⟩
        · refine At.lt (b := y) (cs := mA d) (t := 35) ?_
          (repeat (first | (with_reducible exact j3) | (with_reducible apply at_drewN) | (with_reducible apply at_drew) | (with_reducible apply at_below (k := by assumption))))
        · refine Lib.hid ⟨d, HG2.out, (show At _ _ (clkA d) _ from ?_), ?_⟩
          · (repeat (first | (with_reducible exact j4) | (with_reducible apply at_drewN) | (with_reducible apply at_drew) | (with_reducible apply at_below (k := by assumption))))
          · (repeat (first | (with_reducible exact j3) | (with_reducible apply at_drewN) | (with_reducible apply at_drew) | (with_reducible apply at_below (k := by assumption))))
        · refine Lib.hid ?_
          (repeat (first | (with_reducible exact HB3.out) | (with_reducible apply below_dn) | (with_reducible apply Below.drew) | (with_reducible apply below_al) | (with_reducible refine below_on ?_ (by assumption))))
      case measure => simp [intOf]; omega
    · obtain rfl : k = m := by omega
      go_wp2_with (fail)
      go_ret
      exact ⟨rfl, HB.out⟩
end Go.Proofs.Ytcidckcdfacplaa.Hlc

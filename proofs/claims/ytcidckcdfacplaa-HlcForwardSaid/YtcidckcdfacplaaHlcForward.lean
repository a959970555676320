/- HlcForward answers true: the walk (own text). -/
import Derived.Test.YtcidckcdfacplaaHlcReads
import Derived.Test.YtcidckcdfacplaaDraw
namespace Go.Proofs.Ytcidckcdfacplaa.Hlc
open Go.RowKit Go.Proofs.Ytcidckcdfacplaa.Mem
set_option linter.unusedVariables false
set_option linter.unusedSimpArgs false

theorem s9_start {y x : Nat} {v0 v1 v2 u0 u1 u2 : Value} {t t' : TypeId} {W : World} (h : At W y #[v0, v1, v2] t) (k : At W x #[u0, u1, u2] t') : W.cell? ⟨y, 0, none⟩ = some v0 ∧ W.cell? ⟨y, 1, none⟩ = some v1 ∧ W.cell? ⟨y, 2, none⟩ = some v2 ∧ W.frozen? ⟨y, 0, none⟩ = false ∧ W.frozen? ⟨y, 1, none⟩ = false ∧ W.frozen? ⟨y, 2, none⟩ = false ∧ W.cell? ⟨x, 0, none⟩ = some u0 ∧ W.cell? ⟨x, 1, none⟩ = some u1 ∧ W.cell? ⟨x, 2, none⟩ = some u2 :=
  ⟨(at3 h).1, (at3 h).2.1, (at3 h).2.2.1, (at3 h).2.2.2.1, (at3 h).2.2.2.2.1, (at3 h).2.2.2.2.2, (at3 k).1, (at3 k).2.1, (at3 k).2.2.1⟩
theorem s9_next {y x : Nat} {v0 v1 v2 u0 u1 u2 : Value} {W0 W : World} (h : W0.cell? ⟨y, 0, none⟩ = some v0 ∧ W0.cell? ⟨y, 1, none⟩ = some v1 ∧ W0.cell? ⟨y, 2, none⟩ = some v2 ∧ W0.frozen? ⟨y, 0, none⟩ = false ∧ W0.frozen? ⟨y, 1, none⟩ = false ∧ W0.frozen? ⟨y, 2, none⟩ = false ∧ W0.cell? ⟨x, 0, none⟩ = some u0 ∧ W0.cell? ⟨x, 1, none⟩ = some u1 ∧ W0.cell? ⟨x, 2, none⟩ = some u2) (k : Below W0.heap.size W0 W) : W.cell? ⟨y, 0, none⟩ = some v0 ∧ W.cell? ⟨y, 1, none⟩ = some v1 ∧ W.cell? ⟨y, 2, none⟩ = some v2 ∧ W.frozen? ⟨y, 0, none⟩ = false ∧ W.frozen? ⟨y, 1, none⟩ = false ∧ W.frozen? ⟨y, 2, none⟩ = false ∧ W.cell? ⟨x, 0, none⟩ = some u0 ∧ W.cell? ⟨x, 1, none⟩ = some u1 ∧ W.cell? ⟨x, 2, none⟩ = some u2 := by
  obtain ⟨e0, e1, e2, f0, f1, f2, g0, g1, g2⟩ := h
  have z0 := World.block_lt_of_cell? W0 _ e0
  have z1 := World.block_lt_of_cell? W0 _ g0
  obtain ⟨hc, hf⟩ := bcell k
  exact ⟨by rw [hc _ _ z0, e0], by rw [hc _ _ z0, e1], by rw [hc _ _ z0, e2], by rw [hf _ _ z0, f0], by rw [hf _ _ z0, f1], by rw [hf _ _ z0, f2], by rw [hc _ _ z1, g0], by rw [hc _ _ z1, g1], by rw [hc _ _ z1, g2]⟩
/-- What Now answers stands behind the last stamp, bears the clock's node, and is the last stamp then. -/
theorem now_ok {c : Clk} (he : (nowC c).2.1 = 0) : lessS c.p c.l c.n (nowC c).1.1 (nowC c).1.2.1 (nowC c).1.2.2 = true ∧ (nowC c).1.2.2 = c.node ∧ (nowC c).2.2.p = (nowC c).1.1 ∧ (nowC c).2.2.l = (nowC c).1.2.1 ∧ (nowC c).2.2.n = (nowC c).1.2.2 := by
  unfold nowC at he ⊢
  split
  · rename_i h; rw [if_pos h] at he; simp at he
  rename_i h
  rw [if_neg h] at he
  split
  · rename_i h2
    refine ⟨?_, rfl, rfl, rfl, rfl⟩
    unfold lessS cmpS
    simp only []
    rw [if_neg (by omega), cmpI_lt h2]; rfl
  rename_i h2
  rw [if_neg h2] at he
  split
  · rename_i h3; rw [if_pos h3] at he; simp at he
  · refine ⟨?_, rfl, rfl, rfl, rfl⟩
    unfold lessS cmpS
    simp only []
    rw [if_pos trivial, if_neg (by omega), cmpI_lt (by omega)]; rfl
theorem now_err {c : Clk} (he : (nowC c).2.1 ≠ 0) : (nowC c).2.2 = c := by
  unfold nowC at he ⊢
  split
  · rfl
  rename_i h
  rw [if_neg h] at he
  split
  · rename_i h2; rw [if_pos h2] at he; simp at he
  rename_i h2
  rw [if_neg h2] at he
  split
  · rfl
  · rename_i h3; rw [if_neg h3] at he; simp at he
def stA (c : Clk) : Array Value := #[.int .u64 c.p, .int .u32 c.l, .int .u8 c.n]

theorem s12_start {y x z : Nat} {v0 v1 v2 u0 u1 u2 r0 r1 r2 : Value} {t t' t'' : TypeId} {W : World} (h : At W y #[v0, v1, v2] t) (k : At W x #[u0, u1, u2] t') (g : At W z #[r0, r1, r2] t'') : W.cell? ⟨y, 0, none⟩ = some v0 ∧ W.cell? ⟨y, 1, none⟩ = some v1 ∧ W.cell? ⟨y, 2, none⟩ = some v2 ∧ W.frozen? ⟨y, 0, none⟩ = false ∧ W.frozen? ⟨y, 1, none⟩ = false ∧ W.frozen? ⟨y, 2, none⟩ = false ∧ W.cell? ⟨x, 0, none⟩ = some u0 ∧ W.cell? ⟨x, 1, none⟩ = some u1 ∧ W.cell? ⟨x, 2, none⟩ = some u2 ∧ W.cell? ⟨z, 0, none⟩ = some r0 ∧ W.cell? ⟨z, 1, none⟩ = some r1 ∧ W.cell? ⟨z, 2, none⟩ = some r2 :=
  ⟨(at3 h).1, (at3 h).2.1, (at3 h).2.2.1, (at3 h).2.2.2.1, (at3 h).2.2.2.2.1, (at3 h).2.2.2.2.2, (at3 k).1, (at3 k).2.1, (at3 k).2.2.1, (at3 g).1, (at3 g).2.1, (at3 g).2.2.1⟩
theorem s12_next {y x z : Nat} {v0 v1 v2 u0 u1 u2 r0 r1 r2 : Value} {W0 W : World} (h : W0.cell? ⟨y, 0, none⟩ = some v0 ∧ W0.cell? ⟨y, 1, none⟩ = some v1 ∧ W0.cell? ⟨y, 2, none⟩ = some v2 ∧ W0.frozen? ⟨y, 0, none⟩ = false ∧ W0.frozen? ⟨y, 1, none⟩ = false ∧ W0.frozen? ⟨y, 2, none⟩ = false ∧ W0.cell? ⟨x, 0, none⟩ = some u0 ∧ W0.cell? ⟨x, 1, none⟩ = some u1 ∧ W0.cell? ⟨x, 2, none⟩ = some u2 ∧ W0.cell? ⟨z, 0, none⟩ = some r0 ∧ W0.cell? ⟨z, 1, none⟩ = some r1 ∧ W0.cell? ⟨z, 2, none⟩ = some r2) (k : Below W0.heap.size W0 W) : W.cell? ⟨y, 0, none⟩ = some v0 ∧ W.cell? ⟨y, 1, none⟩ = some v1 ∧ W.cell? ⟨y, 2, none⟩ = some v2 ∧ W.frozen? ⟨y, 0, none⟩ = false ∧ W.frozen? ⟨y, 1, none⟩ = false ∧ W.frozen? ⟨y, 2, none⟩ = false ∧ W.cell? ⟨x, 0, none⟩ = some u0 ∧ W.cell? ⟨x, 1, none⟩ = some u1 ∧ W.cell? ⟨x, 2, none⟩ = some u2 ∧ W.cell? ⟨z, 0, none⟩ = some r0 ∧ W.cell? ⟨z, 1, none⟩ = some r1 ∧ W.cell? ⟨z, 2, none⟩ = some r2 := by
  obtain ⟨e0, e1, e2, f0, f1, f2, g0, g1, g2, d0, d1, d2⟩ := h
  have z0 := World.block_lt_of_cell? W0 _ e0
  have z1 := World.block_lt_of_cell? W0 _ g0
  have z2 := World.block_lt_of_cell? W0 _ d0
  obtain ⟨hc, hf⟩ := bcell k
  exact ⟨by rw [hc _ _ z0, e0], by rw [hc _ _ z0, e1], by rw [hc _ _ z0, e2], by rw [hf _ _ z0, f0], by rw [hf _ _ z0, f1], by rw [hf _ _ z0, f2], by rw [hc _ _ z1, g0], by rw [hc _ _ z1, g1], by rw [hc _ _ z1, g2], by rw [hc _ _ z2, d0], by rw [hc _ _ z2, d1], by rw [hc _ _ z2, d2]⟩
theorem now_er {c : Clk} (he : (nowC c).2.1 ≠ 0) : (nowC c).2.1 = 6 ∨ (nowC c).2.1 = 10 := by
  unfold nowC at he ⊢
  split
  · simp
  rename_i h
  rw [if_neg h] at he
  split
  · rename_i h2; rw [if_pos h2] at he; simp at he
  rename_i h2
  rw [if_neg h2] at he
  split
  · simp
  · rename_i h3; rw [if_neg h3] at he; simp at he

set_option maxRecDepth 100000 in
set_option maxHeartbeats 3200000 in
theorem HlcForward_ok (node time drift : Int) (a : Option Addr) (len cap : Nat) (w : World) (n0 : 0 ≤ node) (n1 : node ≤ 255) (t0 : 0 ≤ time) (t1 : time ≤ 18446744073709551615) (hm : mayC node time drift) (ho : OpsAt w a len cap) :
    Calls Try.prog 4 #[.int .u8 node, .int .u64 time, .int .i64 drift, .slice a len cap] w fun e w' => e = .returned (.bool true) ∧ Below w.heap.size w w' := by
  have hg := good_new (rest := false) hm n0 t0
  obtain ⟨m1, m2, m3, m4⟩ := hm
  have hcl := cutL_le len
  have hcl3 : cutL len ≤ 300 := by unfold cutL; split <;> omega
  generalize hL : cutL len = m at hcl hcl3
  have HL := Lib.hid hL
  clear hL
  have HO := Lib.hid ho
  clear ho
  go_enter Try.func4, Try.ntmps4
  go_wp2_with (fail)
  refine (progNew_ok node time drift false w n0 m1 t0 m2 m3 m4).mono ?_
  rintro e w1 ⟨rfl, a1, h1, z1⟩
  go_wp2_with (fail)
  have hcut := cut_any a len cap (w1.alloc (.cells #[.int .u64 0, .int .u32 0, .int .u8 0] 25)) HO.out.1 HO.out.2.1
  rw [HL.out] at hcut
  refine hcut.mono ?_
  rintro e w1' ⟨rfl, rfl⟩
  clear hcut
  have HG := Lib.hid hg
  have HA := Lib.hid (at_alloc (o := .cells #[.int .u64 0, .int .u32 0, .int .u8 0] 25) a1)
  have HY := Lib.hid (at_new w1 #[.int .u64 0, .int .u32 0, .int .u8 0] 25)
  have HB := Lib.hid (below_al (o := .cells #[.int .u64 0, .int .u32 0, .int .u8 0] 25) h1)
  have zz : w1.heap.size < (w1.alloc (.cells #[.int .u64 0, .int .u32 0, .int .u8 0] 25)).heap.size := by rw [World.size_alloc]; omega
  clear hg a1 h1
  generalize w1.alloc (.cells #[.int .u64 0, .int .u32 0, .int .u8 0] 25) = wa at *
  generalize w1.heap.size = y at *
  rename w.heap.size < y => zy
  go_wp2_with (fail)
  go_loopw [44] (fun v w' => ∃ k : Nat, k ≤ m ∧ v = .int .i64 k ∧ y < w'.heap.size ∧ Hid (∃ c : Clk, Good c ∧ c.node = node ∧ ClkAt w' w.heap.size c ∧ At w' y (stA c) 25) ∧ Hid (Below w.heap.size w w')) (fun v _ => m - (intOf v).toNat)
  case atStart => exact ⟨0, by omega, rfl, zz, Lib.hid ⟨_, HG.out, rfl, HA.out, HY.out⟩, HB⟩
  case round =>
    clear HA HB HG HY zz
    obtain ⟨k, hk, rfl, z1, HCC, HB⟩ := hrel
    by_cases hlt : k < m
    · obtain ⟨b, off, kk, mm, p, l, n, rfl, hbw, e0, e1, e2, e3, e4, bk, bm, bp, bl, bn⟩ := ops_at HO.out (show k < len by omega)
      obtain ⟨c, hg, hnn, hc, hy⟩ := HCC.out
      have hbc := fun i => HB.out.cell (p := ⟨b, i, none⟩) hbw
      rw [← hbc] at e0 e1 e2 e3 e4
      clear hbc HCC
      have HC := Lib.hid hc
      have HG := Lib.hid hg
      have HN := Lib.hid hnn
      have HY := Lib.hid hy
      clear hc hg hnn hy
      by_cases hk0 : kk = 0
      · subst hk0
        obtain ⟨s1, s2, s3, er, d2, hnd⟩ : ∃ s1 s2 s3 er d2, nowC c = ((s1, s2, s3), er, d2) := ⟨_, _, _, _, _, rfl⟩
        have hn := fun W hc => now_any w.heap.size c W hc HG.out
        have hgd := good_now HG.out
        have hfd := now_fix c
        have hok := fun he => now_ok (c := c) he
        have hne := fun he => now_err (c := c) he
        have her := fun he => now_er (c := c) he
        rw [hnd] at hn hgd hfd hok hne her
        simp only [] at hn hgd hfd hok hne her
        by_cases he : er = 0
        · obtain ⟨qn, qt, qd, qs, qr, qp, ql, qm⟩ := d2
          (try simp only [] at *)
          obtain ⟨hless, hs3, h5, h6, h7⟩ := hok he
          subst h5
          subst h6
          obtain rfl : node = qm := (h7.trans (hs3.trans HN.out)).symm
          (try subst h7)
          subst he
          have HG2 := Lib.hid hgd
          have HN2 := Lib.hid (hfd.1.trans HN.out)
          have h17 := fun W => less_any c.p c.l c.n qp ql node W
          rw [hless] at h17
          have H17 := Lib.hid h17
          have HNW := Lib.hid hn
          clear hn hgd hfd hok hne her hnd h17 hless hs3 HG HN
          go_wp2_with (fail)
          refine (last_b _ c _ (at_alloc HC.out)).mono ?_
          rintro e w1 ⟨rfl, h1⟩
          have HC1 := Lib.hid (at_below (at_alloc (o := .cells #[.int .i64 0, .int .i64 mm, .int .u64 p, .int .u32 l, .int .u8 n] 40) HC.out) h1)
          have HY1 := Lib.hid (at_below (at_alloc (o := .cells #[.int .i64 0, .int .i64 mm, .int .u64 p, .int .u32 l, .int .u8 n] 40) HY.out) h1)
          have HO1 := Lib.hid (at_below (at_new wr #[.int .i64 0, .int .i64 mm, .int .u64 p, .int .u32 l, .int .u8 n] 40) h1)
          have HB1 := Lib.hid (below_on (below_al HB.out) h1)
          have z2 : wr.heap.size < w1.heap.size := At.lt HO1.out
          have z3 : w.heap.size < w1.heap.size := At.lt HC1.out
          clear HC HY HB h1
          obtain ⟨x0, x1, x2, x3, x4, -⟩ := at5 HO1.out
          go_wp2_with (fail)
          refine (HNW.out _ (at_alloc HC1.out)).mono ?_
          rintro e w2 ⟨rfl, a2, h2⟩
          have hC : At w2 w.heap.size (clkA (Clk.mk qn qt qd qs qr qp ql node)) 60 := a2
          have hY := at_chg (at_alloc (o := .cells #[.int .u64 c.p, .int .u32 c.l, .int .u8 c.n] 25) HY1.out) h2 (Nat.ne_of_gt zy)
          have hW := at_chg (at_new w1 #[.int .u64 c.p, .int .u32 c.l, .int .u8 c.n] 25) h2 (Nat.ne_of_gt z3)
          have hO := at_chg (at_alloc (o := .cells #[.int .u64 c.p, .int .u32 c.l, .int .u8 c.n] 25) HO1.out) h2 (Nat.ne_of_gt (Nat.lt_trans zy z1))
          have HB2 := Lib.hid (below_chg (below_al (o := .cells #[.int .u64 c.p, .int .u32 c.l, .int .u8 c.n] 25) HB1.out) h2 (fun i h => by omega))
          have zw2 : y < w2.heap.size := At.lt hY
          clear a2 h2 x0 x1 x2 x3 x4 HC1 HY1 HO1 HB1
          have hS := at_new w2 #[.int .u64 qp, .int .u32 ql, .int .u8 node] 25
          go_wp2_with (fail)
          refine wp_region_held_drew (S := (fun W => W.cell? ⟨y, 0, none⟩ = some (.int .u64 c.p) ∧ W.cell? ⟨y, 1, none⟩ = some (.int .u32 c.l) ∧ W.cell? ⟨y, 2, none⟩ = some (.int .u8 c.n) ∧ W.frozen? ⟨y, 0, none⟩ = false ∧ W.frozen? ⟨y, 1, none⟩ = false ∧ W.frozen? ⟨y, 2, none⟩ = false ∧ W.cell? ⟨w2.heap.size, 0, none⟩ = some (.int .u64 qp) ∧ W.cell? ⟨w2.heap.size, 1, none⟩ = some (.int .u32 ql) ∧ W.cell? ⟨w2.heap.size, 2, none⟩ = some (.int .u8 node) ∧ W.cell? ⟨w1.heap.size, 0, none⟩ = some (.int .u64 c.p) ∧ W.cell? ⟨w1.heap.size, 1, none⟩ = some (.int .u32 c.l) ∧ W.cell? ⟨w1.heap.size, 2, none⟩ = some (.int .u8 c.n))) (by kernel_rfl) ?_ (fun hHeld => ?_)
          · (try dsimp only)
            exact s12_start (at_drew (at_alloc hY)) (at_drew hS) (at_drew (at_alloc hW))
          refine Draw.take_w (i := 0) (v := ?vv1) rfl (by kernel_rfl) (by kernel_rfl) (by kernel_rfl) (fun _ _ _ h => h) (by rfl) ?hy1 (by assumption) ?rest1
          case hy1 => ((intro w hSw); (try dsimp only at hSw); go_simp; (try with_reducible rfl))
          (try simp only [Act.put, List.setIfInBounds_toArray, List.set_cons_zero, List.set_cons_succ])
          refine Draw.take_w (i := 1) (v := ?vv2) rfl (by kernel_rfl) (by kernel_rfl) (by kernel_rfl) (fun _ _ _ h => h) (by rfl) ?hy2 (by assumption) ?rest2
          case hy2 => ((intro w hSw); (try dsimp only at hSw); go_simp; (try with_reducible rfl))
          (try simp only [Act.put, List.setIfInBounds_toArray, List.set_cons_zero, List.set_cons_succ])
          refine Draw.take_w (i := 2) (v := ?vv3) rfl (by kernel_rfl) (by kernel_rfl) (by kernel_rfl) (fun _ _ _ h => h) (by rfl) ?hy3 (by assumption) ?rest3
          case hy3 => ((intro w hSw); (try dsimp only at hSw); go_simp; (try with_reducible rfl))
          (try simp only [Act.put, List.setIfInBounds_toArray, List.set_cons_zero, List.set_cons_succ])
          refine Draw.take_w (i := 3) (v := ?vv4) rfl (by kernel_rfl) (by kernel_rfl) (by kernel_rfl) (fun _ _ _ h => h) (by rfl) ?hy4 (by assumption) ?rest4
          case hy4 => ((intro w hSw); (try dsimp only at hSw); go_simp; (try with_reducible rfl))
          (try simp only [Act.put, List.setIfInBounds_toArray, List.set_cons_zero, List.set_cons_succ])
          refine Draw.take_w (i := 4) (v := ?vv5) rfl (by kernel_rfl) (by kernel_rfl) (by kernel_rfl) (fun _ _ _ h => h) (by rfl) ?hy5 (by assumption) ?rest5
          case hy5 => ((intro w hSw); (try dsimp only at hSw); go_simp; (try with_reducible rfl))
          (try simp only [Act.put, List.setIfInBounds_toArray, List.set_cons_zero, List.set_cons_succ])
          refine Draw.call_d (i := 5) rfl (by kernel_rfl) (by rfl) (fun K hK => ?_)
          go_simp
          (go_at_call 17; (with_reducible refine (H17.out _).mono ?_); rintro e w3 ⟨rfl, hb1⟩)
          refine hK.out _ _ ?_ (fun hHeld => ?_)
          · (try dsimp only)
            exact s12_next (by assumption) hb1
          clear hK K
          (try simp only [Act.put, List.setIfInBounds_toArray, List.set_cons_zero, List.set_cons_succ])
          refine Draw.take_w (i := 6) (v := ?vv6) rfl (by kernel_rfl) (by kernel_rfl) (by kernel_rfl) (fun _ _ _ h => h) (by rfl) ?hy6 (by assumption) ?rest6
          case hy6 => ((intro w hSw); (try dsimp only at hSw); go_simp; (try with_reducible rfl))
          (try simp only [Act.put, List.setIfInBounds_toArray, List.set_cons_zero, List.set_cons_succ])
          refine Draw.take_w (i := 7) (v := ?vv7) rfl (by kernel_rfl) (by kernel_rfl) (by kernel_rfl) (fun _ _ _ h => h) (by rfl) ?hy7 (by assumption) ?rest7
          case hy7 => ((intro w hSw); (try dsimp only at hSw); go_simp; (try with_reducible rfl))
          (try simp only [Act.put, List.setIfInBounds_toArray, List.set_cons_zero, List.set_cons_succ])
          refine Draw.take_w (i := 8) (v := ?vv8) rfl (by kernel_rfl) (by kernel_rfl) (by kernel_rfl) (fun _ _ _ h => h) (by rfl) ?hy8 (by assumption) ?rest8
          case hy8 => ((intro w hSw); (try dsimp only at hSw); go_simp; (try with_reducible rfl))
          (try simp only [Act.put, List.setIfInBounds_toArray, List.set_cons_zero, List.set_cons_succ])
          refine Draw.take_w (i := 9) (v := ?vv9) rfl (by kernel_rfl) (by kernel_rfl) (by kernel_rfl) (fun _ _ _ h => h) (by rfl) ?hy9 (by assumption) ?rest9
          case hy9 => ((intro w hSw); (try dsimp only at hSw); go_simp; (try with_reducible rfl))
          (try simp only [Act.put, List.setIfInBounds_toArray, List.set_cons_zero, List.set_cons_succ])
          refine Draw.take_w (i := 10) (v := ?vv10) rfl (by kernel_rfl) (by kernel_rfl) (by kernel_rfl) (fun _ _ _ h => h) (by rfl) ?hy10 (by assumption) ?rest10
          case hy10 => ((intro w hSw); (try dsimp only at hSw); go_simp; (try with_reducible rfl))
          (try simp only [Act.put, List.setIfInBounds_toArray, List.set_cons_zero, List.set_cons_succ])
          refine Draw.take_w (i := 11) (v := ?vv11) rfl (by kernel_rfl) (by kernel_rfl) (by kernel_rfl) (fun _ _ _ h => h) (by rfl) ?hy11 (by assumption) ?rest11
          case hy11 => ((intro w hSw); (try dsimp only at hSw); go_simp; (try with_reducible rfl))
          (try simp only [Act.put, List.setIfInBounds_toArray, List.set_cons_zero, List.set_cons_succ])
          refine Draw.take_w (i := 12) (v := ?vv12) rfl (by kernel_rfl) (by kernel_rfl) (by kernel_rfl) (fun _ _ _ h => h) (by rfl) ?hy12 (by assumption) ?rest12
          case hy12 => ((intro w hSw); (try dsimp only at hSw); go_simp; (try with_reducible rfl))
          (try simp only [Act.put, List.setIfInBounds_toArray, List.set_cons_zero, List.set_cons_succ])
          refine Draw.take_w (i := 13) (v := ?vv13) rfl (by kernel_rfl) (by kernel_rfl) (by kernel_rfl) (fun _ _ _ h => h) (by rfl) ?hy13 (by assumption) ?rest13
          case hy13 => ((intro w hSw); (try dsimp only at hSw); go_simp; (try with_reducible rfl))
          (try simp only [Act.put, List.setIfInBounds_toArray, List.set_cons_zero, List.set_cons_succ])
          refine Draw.take_w (i := 14) (v := ?vv14) rfl (by kernel_rfl) (by kernel_rfl) (by kernel_rfl) (fun _ _ _ h => h) (by rfl) ?hy14 (by assumption) ?rest14
          case hy14 => ((intro w hSw); (try dsimp only at hSw); go_simp; (try with_reducible rfl))
          (try simp only [Act.put, List.setIfInBounds_toArray, List.set_cons_zero, List.set_cons_succ])
          refine Draw.take_w (i := 15) (v := ?vv15) rfl (by kernel_rfl) (by kernel_rfl) (by kernel_rfl) (fun _ _ _ h => h) (by rfl) ?hy15 (by assumption) ?rest15
          case hy15 => ((intro w hSw); (try dsimp only at hSw); go_simp; (try with_reducible rfl))
          (try simp only [Act.put, List.setIfInBounds_toArray, List.set_cons_zero, List.set_cons_succ])
          refine Draw.take_w (i := 16) (v := ?vv16) rfl (by kernel_rfl) (by kernel_rfl) (by kernel_rfl) (fun _ _ _ h => h) (by rfl) ?hy16 (by assumption) ?rest16
          case hy16 => ((intro w hSw); (try dsimp only at hSw); go_simp; (try with_reducible rfl))
          (try simp only [Act.put, List.setIfInBounds_toArray, List.set_cons_zero, List.set_cons_succ])
          refine Draw.take_w (i := 17) (v := ?vv17) rfl (by kernel_rfl) (by kernel_rfl) (by kernel_rfl) (fun _ _ _ h => h) (by rfl) ?hy17 (by assumption) ?rest17
          case hy17 => ((intro w hSw); (try dsimp only at hSw); go_simp; (try with_reducible rfl))
          (try simp only [Act.put, List.setIfInBounds_toArray, List.set_cons_zero, List.set_cons_succ])
          refine Draw.take_w (i := 18) (v := ?vv18) rfl (by kernel_rfl) (by kernel_rfl) (by kernel_rfl) (fun _ _ _ h => h) (by rfl) ?hy18 (by assumption) ?rest18
          case hy18 => ((intro w hSw); (try dsimp only at hSw); go_simp; (try with_reducible rfl))
          (try simp only [Act.put, List.setIfInBounds_toArray, List.set_cons_zero, List.set_cons_succ])
          refine Draw.take_w (i := 19) (v := ?vv19) rfl (by kernel_rfl) (by kernel_rfl) (by kernel_rfl) (fun _ _ _ h => h) (by rfl) ?hy19 (by assumption) ?rest19
          case hy19 => ((intro w hSw); (try dsimp only at hSw); go_simp; (try with_reducible rfl))
          (try simp only [Act.put, List.setIfInBounds_toArray, List.set_cons_zero, List.set_cons_succ])
          refine Draw.take_w (i := 20) (v := ?vv20) rfl (by kernel_rfl) (by kernel_rfl) (by kernel_rfl) (fun _ _ _ h => h) (by rfl) ?hy20 (by assumption) ?rest20
          case hy20 => ((intro w hSw); (try dsimp only at hSw); go_simp; (try with_reducible rfl))
          (try simp only [Act.put, List.setIfInBounds_toArray, List.set_cons_zero, List.set_cons_succ])
          refine Draw.take_w (i := 21) (v := ?vv21) rfl (by kernel_rfl) (by kernel_rfl) (by kernel_rfl) (fun _ _ _ h => h) (by rfl) ?hy21 (by assumption) ?rest21
          case hy21 => ((intro w hSw); (try dsimp only at hSw); go_simp; (try with_reducible rfl))
          (try simp only [Act.put, List.setIfInBounds_toArray, List.set_cons_zero, List.set_cons_succ])
          refine Draw.take_u (i := 22) rfl (by kernel_rfl) (by kernel_rfl) (by kernel_rfl) (fun _ _ _ h => h) (by rfl) (by assumption) ?_
          (try simp only [Act.put, List.setIfInBounds_toArray, List.set_cons_zero, List.set_cons_succ])
          refine Draw.take_u (i := 23) rfl (by kernel_rfl) (by kernel_rfl) (by kernel_rfl) (fun _ _ _ h => h) (by rfl) (by assumption) ?_
          (try simp only [Act.put, List.setIfInBounds_toArray, List.set_cons_zero, List.set_cons_succ])
          refine Draw.take_u (i := 24) rfl (by kernel_rfl) (by kernel_rfl) (by kernel_rfl) (fun _ _ _ h => h) (by rfl) (by assumption) ?_
          (try simp only [Act.put, List.setIfInBounds_toArray, List.set_cons_zero, List.set_cons_succ])
          refine Draw.take_u (i := 25) rfl (by kernel_rfl) (by kernel_rfl) (by kernel_rfl) (fun _ _ _ h => h) (by rfl) (by assumption) ?_
          (try simp only [Act.put, List.setIfInBounds_toArray, List.set_cons_zero, List.set_cons_succ])
          refine Draw.take_w (i := 26) (v := ?vv26) rfl (by kernel_rfl) (by kernel_rfl) (by kernel_rfl) (fun _ _ _ h => h) (by rfl) ?hy26 (by assumption) ?rest26
          case hy26 => ((intro w hSw); (try dsimp only at hSw); go_simp; (try with_reducible rfl))
          (try simp only [Act.put, List.setIfInBounds_toArray, List.set_cons_zero, List.set_cons_succ])
          refine Draw.take_w (i := 27) (v := ?vv27) rfl (by kernel_rfl) (by kernel_rfl) (by kernel_rfl) (fun _ _ _ h => h) (by rfl) ?hy27 (by assumption) ?rest27
          case hy27 => ((intro w hSw); (try dsimp only at hSw); go_simp; (try with_reducible rfl))
          (try simp only [Act.put, List.setIfInBounds_toArray, List.set_cons_zero, List.set_cons_succ])
          refine wpAnyH_done (by kernel_rfl) ?_ _
          go_wp2_with (fail)
          go_region_held3 (fun W => W.cell? ⟨y, 0, none⟩ = some (.int .u64 qp) ∧ W.cell? ⟨y, 1, none⟩ = some (.int .u32 ql) ∧ W.cell? ⟨y, 2, none⟩ = some (.int .u8 node)) (first | ((refine c3_start (t := 25) ?_); (show At _ _ (stA (Clk.mk qn qt qd qs qr qp ql node)) _); (repeat (first | (with_reducible exact hC) | (with_reducible exact hY) | (with_reducible exact hW) | (with_reducible exact hO) | (with_reducible apply at_drewN) | (with_reducible apply at_drew) | (with_reducible apply at_alloc) | (with_reducible apply at_set') | (with_reducible apply at_set_ne (hne := Nat.ne_of_lt zy)) | (with_reducible apply at_below (k := by assumption)))); all_goals rfl) | exact c3_next (by assumption) hb1) (first | (go_at_call 15; (with_reducible refine (last_b _ (Clk.mk qn qt qd qs qr qp ql node) _ ?hcl).mono ?_); (case hcl => ((show At _ _ (clkA (Clk.mk qn qt qd qs qr qp ql node)) _); (repeat (first | (with_reducible exact hC) | (with_reducible exact hY) | (with_reducible exact hW) | (with_reducible exact hO) | (with_reducible apply at_drewN) | (with_reducible apply at_drew) | (with_reducible apply at_alloc) | (with_reducible apply at_set') | (with_reducible apply at_set_ne (hne := Nat.ne_of_lt zy)) | (with_reducible apply at_below (k := by assumption)))); all_goals rfl)); rintro e w3 ⟨rfl, hb1⟩))
          go_wp2_with (fail)
          go_roundw
          case rel =>
            refine ⟨k + 1, by omega, by go_num, ?_, ?_, ?_⟩
            · refine At.lt (b := y) (cs := stA (Clk.mk qn qt qd qs qr qp ql node)) (t := 25) ?_
              (repeat (first | (with_reducible exact hC) | (with_reducible exact hY) | (with_reducible exact hW) | (with_reducible exact hO) | (with_reducible apply at_drewN) | (with_reducible apply at_drew) | (with_reducible apply at_alloc) | (with_reducible apply at_set') | (with_reducible apply at_set_ne (hne := Nat.ne_of_lt zy)) | (with_reducible apply at_below (k := by assumption))))
              all_goals rfl
            · refine Lib.hid ⟨(Clk.mk qn qt qd qs qr qp ql node), HG2.out, HN2.out, (show At _ _ (clkA (Clk.mk qn qt qd qs qr qp ql node)) _ from ?_), (show At _ _ (stA (Clk.mk qn qt qd qs qr qp ql node)) _ from ?_)⟩
              · (repeat (first | (with_reducible exact hC) | (with_reducible exact hY) | (with_reducible exact hW) | (with_reducible exact hO) | (with_reducible apply at_drewN) | (with_reducible apply at_drew) | (with_reducible apply at_alloc) | (with_reducible apply at_set') | (with_reducible apply at_set_ne (hne := Nat.ne_of_lt zy)) | (with_reducible apply at_below (k := by assumption))))
              · (repeat (first | (with_reducible exact hC) | (with_reducible exact hY) | (with_reducible exact hW) | (with_reducible exact hO) | (with_reducible apply at_drewN) | (with_reducible apply at_drew) | (with_reducible apply at_alloc) | (with_reducible apply at_set') | (with_reducible apply at_set_ne (hne := Nat.ne_of_lt zy)) | (with_reducible apply at_below (k := by assumption))))
                all_goals rfl
            · refine Lib.hid ?_
              (repeat (first | (with_reducible exact HB2.out) | (with_reducible apply below_dn) | (with_reducible apply Below.drew) | (with_reducible apply below_al) | (with_reducible refine below_new ?_ (Nat.le_of_lt zy)) | (with_reducible refine below_on ?_ (by assumption))))
          case measure => simp [intOf]; omega
        · have hd2 := hne he
          obtain rfl : c = d2 := hd2.symm
          rcases her he with rfl | rfl
          · have HG2 := HG
            have HN2 := HN
            have HNW := Lib.hid hn
            clear hn hgd hfd hok hne her hnd he
            go_wp2_with (fail)
            refine (last_b _ c _ (at_alloc HC.out)).mono ?_
            rintro e w1 ⟨rfl, h1⟩
            have HC1 := Lib.hid (at_below (at_alloc (o := .cells #[.int .i64 0, .int .i64 mm, .int .u64 p, .int .u32 l, .int .u8 n] 40) HC.out) h1)
            have HY1 := Lib.hid (at_below (at_alloc (o := .cells #[.int .i64 0, .int .i64 mm, .int .u64 p, .int .u32 l, .int .u8 n] 40) HY.out) h1)
            have HO1 := Lib.hid (at_below (at_new wr #[.int .i64 0, .int .i64 mm, .int .u64 p, .int .u32 l, .int .u8 n] 40) h1)
            have HB1 := Lib.hid (below_on (below_al HB.out) h1)
            have z2 : wr.heap.size < w1.heap.size := At.lt HO1.out
            have z3 : w.heap.size < w1.heap.size := At.lt HC1.out
            clear HC HY HB h1
            obtain ⟨x0, x1, x2, x3, x4, -⟩ := at5 HO1.out
            go_wp2_with (fail)
            refine (HNW.out _ (at_alloc HC1.out)).mono ?_
            rintro e w2 ⟨rfl, a2, h2⟩
            have hC : At w2 w.heap.size (clkA c) 60 := a2
            have hY := at_chg (at_alloc (o := .cells #[.int .u64 c.p, .int .u32 c.l, .int .u8 c.n] 25) HY1.out) h2 (Nat.ne_of_gt zy)
            have hW := at_chg (at_new w1 #[.int .u64 c.p, .int .u32 c.l, .int .u8 c.n] 25) h2 (Nat.ne_of_gt z3)
            have hO := at_chg (at_alloc (o := .cells #[.int .u64 c.p, .int .u32 c.l, .int .u8 c.n] 25) HO1.out) h2 (Nat.ne_of_gt (Nat.lt_trans zy z1))
            have HB2 := Lib.hid (below_chg (below_al (o := .cells #[.int .u64 c.p, .int .u32 c.l, .int .u8 c.n] 25) HB1.out) h2 (fun i h => by omega))
            have zw2 : y < w2.heap.size := At.lt hY
            clear a2 h2 x0 x1 x2 x3 x4 HC1 HY1 HO1 HB1
            have hS := at_new w2 #[.int .u64 s1, .int .u32 s2, .int .u8 s3] 25
            go_wp2_with (fail)
            refine wp_region_held_drew (S := (fun W => W.cell? ⟨y, 0, none⟩ = some (.int .u64 c.p) ∧ W.cell? ⟨y, 1, none⟩ = some (.int .u32 c.l) ∧ W.cell? ⟨y, 2, none⟩ = some (.int .u8 c.n) ∧ W.frozen? ⟨y, 0, none⟩ = false ∧ W.frozen? ⟨y, 1, none⟩ = false ∧ W.frozen? ⟨y, 2, none⟩ = false ∧ W.cell? ⟨w2.heap.size, 0, none⟩ = some (.int .u64 s1) ∧ W.cell? ⟨w2.heap.size, 1, none⟩ = some (.int .u32 s2) ∧ W.cell? ⟨w2.heap.size, 2, none⟩ = some (.int .u8 s3) ∧ W.cell? ⟨w1.heap.size, 0, none⟩ = some (.int .u64 c.p) ∧ W.cell? ⟨w1.heap.size, 1, none⟩ = some (.int .u32 c.l) ∧ W.cell? ⟨w1.heap.size, 2, none⟩ = some (.int .u8 c.n))) (by kernel_rfl) ?_ (fun hHeld => ?_)
            · (try dsimp only)
              exact s12_start (at_drew (at_alloc hY)) (at_drew hS) (at_drew (at_alloc hW))
            refine Draw.take_w (i := 0) (v := ?vv28) rfl (by kernel_rfl) (by kernel_rfl) (by kernel_rfl) (fun _ _ _ h => h) (by rfl) ?hy28 (by assumption) ?rest28
            case hy28 => ((intro w hSw); (try dsimp only at hSw); go_simp; (try with_reducible rfl))
            (try simp only [Act.put, List.setIfInBounds_toArray, List.set_cons_zero, List.set_cons_succ])
            refine Draw.take_w (i := 1) (v := ?vv29) rfl (by kernel_rfl) (by kernel_rfl) (by kernel_rfl) (fun _ _ _ h => h) (by rfl) ?hy29 (by assumption) ?rest29
            case hy29 => ((intro w hSw); (try dsimp only at hSw); go_simp; (try with_reducible rfl))
            (try simp only [Act.put, List.setIfInBounds_toArray, List.set_cons_zero, List.set_cons_succ])
            refine Draw.take_w (i := 2) (v := ?vv30) rfl (by kernel_rfl) (by kernel_rfl) (by kernel_rfl) (fun _ _ _ h => h) (by rfl) ?hy30 (by assumption) ?rest30
            case hy30 => ((intro w hSw); (try dsimp only at hSw); go_simp; (try with_reducible rfl))
            (try simp only [Act.put, List.setIfInBounds_toArray, List.set_cons_zero, List.set_cons_succ])
            refine Draw.take_u (i := 3) rfl (by kernel_rfl) (by kernel_rfl) (by kernel_rfl) (fun _ _ _ h => h) (by rfl) (by assumption) ?_
            (try simp only [Act.put, List.setIfInBounds_toArray, List.set_cons_zero, List.set_cons_succ])
            refine Draw.take_u (i := 4) rfl (by kernel_rfl) (by kernel_rfl) (by kernel_rfl) (fun _ _ _ h => h) (by rfl) (by assumption) ?_
            (try simp only [Act.put, List.setIfInBounds_toArray, List.set_cons_zero, List.set_cons_succ])
            refine Draw.take_u (i := 5) rfl (by kernel_rfl) (by kernel_rfl) (by kernel_rfl) (fun _ _ _ h => h) (by rfl) (by assumption) ?_
            (try simp only [Act.put, List.setIfInBounds_toArray, List.set_cons_zero, List.set_cons_succ])
            refine Draw.take_u (i := 6) rfl (by kernel_rfl) (by kernel_rfl) (by kernel_rfl) (fun _ _ _ h => h) (by rfl) (by assumption) ?_
            (try simp only [Act.put, List.setIfInBounds_toArray, List.set_cons_zero, List.set_cons_succ])
            refine Draw.take_w (i := 7) (v := ?vv35) rfl (by kernel_rfl) (by kernel_rfl) (by kernel_rfl) (fun _ _ _ h => h) (by rfl) ?hy35 (by assumption) ?rest35
            case hy35 => ((intro w hSw); (try dsimp only at hSw); go_simp; (try with_reducible rfl))
            (try simp only [Act.put, List.setIfInBounds_toArray, List.set_cons_zero, List.set_cons_succ])
            refine Draw.take_w (i := 8) (v := ?vv36) rfl (by kernel_rfl) (by kernel_rfl) (by kernel_rfl) (fun _ _ _ h => h) (by rfl) ?hy36 (by assumption) ?rest36
            case hy36 => ((intro w hSw); (try dsimp only at hSw); go_simp; (try with_reducible rfl))
            (try simp only [Act.put, List.setIfInBounds_toArray, List.set_cons_zero, List.set_cons_succ])
            refine Draw.take_w (i := 9) (v := ?vv37) rfl (by kernel_rfl) (by kernel_rfl) (by kernel_rfl) (fun _ _ _ h => h) (by rfl) ?hy37 (by assumption) ?rest37
            case hy37 => ((intro w hSw); (try dsimp only at hSw); go_simp; (try with_reducible rfl))
            (try simp only [Act.put, List.setIfInBounds_toArray, List.set_cons_zero, List.set_cons_succ])
            refine Draw.take_w (i := 10) (v := ?vv38) rfl (by kernel_rfl) (by kernel_rfl) (by kernel_rfl) (fun _ _ _ h => h) (by rfl) ?hy38 (by assumption) ?rest38
            case hy38 => ((intro w hSw); (try dsimp only at hSw); go_simp; (try with_reducible rfl))
            (try simp only [Act.put, List.setIfInBounds_toArray, List.set_cons_zero, List.set_cons_succ])
            refine Draw.take_w (i := 11) (v := ?vv39) rfl (by kernel_rfl) (by kernel_rfl) (by kernel_rfl) (fun _ _ _ h => h) (by rfl) ?hy39 (by assumption) ?rest39
            case hy39 => ((intro w hSw); (try dsimp only at hSw); go_simp; (try with_reducible rfl))
            (try simp only [Act.put, List.setIfInBounds_toArray, List.set_cons_zero, List.set_cons_succ])
            refine Draw.take_u (i := 12) rfl (by kernel_rfl) (by kernel_rfl) (by kernel_rfl) (fun _ _ _ h => h) (by rfl) (by assumption) ?_
            (try simp only [Act.put, List.setIfInBounds_toArray, List.set_cons_zero, List.set_cons_succ])
            refine Draw.take_u (i := 13) rfl (by kernel_rfl) (by kernel_rfl) (by kernel_rfl) (fun _ _ _ h => h) (by rfl) (by assumption) ?_
            (try simp only [Act.put, List.setIfInBounds_toArray, List.set_cons_zero, List.set_cons_succ])
            refine Draw.take_u (i := 14) rfl (by kernel_rfl) (by kernel_rfl) (by kernel_rfl) (fun _ _ _ h => h) (by rfl) (by assumption) ?_
            (try simp only [Act.put, List.setIfInBounds_toArray, List.set_cons_zero, List.set_cons_succ])
            refine Draw.take_u (i := 15) rfl (by kernel_rfl) (by kernel_rfl) (by kernel_rfl) (fun _ _ _ h => h) (by rfl) (by assumption) ?_
            (try simp only [Act.put, List.setIfInBounds_toArray, List.set_cons_zero, List.set_cons_succ])
            refine Draw.take_w (i := 16) (v := ?vv44) rfl (by kernel_rfl) (by kernel_rfl) (by kernel_rfl) (fun _ _ _ h => h) (by rfl) ?hy44 (by assumption) ?rest44
            case hy44 => ((intro w hSw); (try dsimp only at hSw); go_simp; (try with_reducible rfl))
            (try simp only [Act.put, List.setIfInBounds_toArray, List.set_cons_zero, List.set_cons_succ])
            refine Draw.take_w (i := 17) (v := ?vv45) rfl (by kernel_rfl) (by kernel_rfl) (by kernel_rfl) (fun _ _ _ h => h) (by rfl) ?hy45 (by assumption) ?rest45
            case hy45 => ((intro w hSw); (try dsimp only at hSw); go_simp; (try with_reducible rfl))
            (try simp only [Act.put, List.setIfInBounds_toArray, List.set_cons_zero, List.set_cons_succ])
            refine Draw.take_w (i := 18) (v := ?vv46) rfl (by kernel_rfl) (by kernel_rfl) (by kernel_rfl) (fun _ _ _ h => h) (by rfl) ?hy46 (by assumption) ?rest46
            case hy46 => ((intro w hSw); (try dsimp only at hSw); go_simp; (try with_reducible rfl))
            (try simp only [Act.put, List.setIfInBounds_toArray, List.set_cons_zero, List.set_cons_succ])
            refine Draw.take_w (i := 19) (v := ?vv47) rfl (by kernel_rfl) (by kernel_rfl) (by kernel_rfl) (fun _ _ _ h => h) (by rfl) ?hy47 (by assumption) ?rest47
            case hy47 => ((intro w hSw); (try dsimp only at hSw); go_simp; (try with_reducible rfl))
            (try simp only [Act.put, List.setIfInBounds_toArray, List.set_cons_zero, List.set_cons_succ])
            refine Draw.take_w (i := 20) (v := ?vv48) rfl (by kernel_rfl) (by kernel_rfl) (by kernel_rfl) (fun _ _ _ h => h) (by rfl) ?hy48 (by assumption) ?rest48
            case hy48 => ((intro w hSw); (try dsimp only at hSw); go_simp; (try with_reducible rfl))
            (try simp only [Act.put, List.setIfInBounds_toArray, List.set_cons_zero, List.set_cons_succ])
            refine Draw.take_w (i := 21) (v := ?vv49) rfl (by kernel_rfl) (by kernel_rfl) (by kernel_rfl) (fun _ _ _ h => h) (by rfl) ?hy49 (by assumption) ?rest49
            case hy49 => ((intro w hSw); (try dsimp only at hSw); go_simp; (try with_reducible rfl))
            (try simp only [Act.put, List.setIfInBounds_toArray, List.set_cons_zero, List.set_cons_succ])
            refine Draw.take_w (i := 22) (v := ?vv50) rfl (by kernel_rfl) (by kernel_rfl) (by kernel_rfl) (fun _ _ _ h => h) (by rfl) ?hy50 (by assumption) ?rest50
            case hy50 => ((intro w hSw); (try dsimp only at hSw); go_simp; (try with_reducible rfl))
            (try simp only [Act.put, List.setIfInBounds_toArray, List.set_cons_zero, List.set_cons_succ])
            refine Draw.take_w (i := 24) (v := ?vv51) rfl (by kernel_rfl) (by kernel_rfl) (by kernel_rfl) (fun _ _ _ h => h) (by rfl) ?hy51 (by assumption) ?rest51
            case hy51 => ((intro w hSw); (try dsimp only at hSw); go_simp; (try with_reducible rfl))
            (try simp only [Act.put, List.setIfInBounds_toArray, List.set_cons_zero, List.set_cons_succ])
            refine Draw.call_d (i := 23) rfl (by kernel_rfl) (by rfl) (fun K hK => ?_)
            go_simp
            (go_at_call 15; (with_reducible refine (last_b _ c _ ?hcl).mono ?_); (case hcl => ((show At _ _ (clkA c) _); (repeat (first | (with_reducible exact hC) | (with_reducible exact hY) | (with_reducible exact hW) | (with_reducible exact hO) | (with_reducible apply at_drewN) | (with_reducible apply at_drew) | (with_reducible apply at_alloc) | (with_reducible apply at_set') | (with_reducible apply at_set_ne (hne := Nat.ne_of_lt zy)) | (with_reducible apply at_below (k := by assumption)))); all_goals rfl)); rintro e w3 ⟨rfl, hb1⟩)
            refine hK.out _ _ ?_ (fun hHeld => ?_)
            · (try dsimp only)
              exact s12_next (by assumption) hb1
            clear hK K
            (try simp only [Act.put, List.setIfInBounds_toArray, List.set_cons_zero, List.set_cons_succ])
            refine Draw.take_w (i := 25) (v := ?vv52) rfl (by kernel_rfl) (by kernel_rfl) (by kernel_rfl) (fun _ _ _ h => h) (by rfl) ?hy52 (by assumption) ?rest52
            case hy52 => ((intro w hSw); (try dsimp only at hSw); go_simp; (try with_reducible rfl))
            (try simp only [Act.put, List.setIfInBounds_toArray, List.set_cons_zero, List.set_cons_succ])
            refine Draw.take_w (i := 26) (v := ?vv53) rfl (by kernel_rfl) (by kernel_rfl) (by kernel_rfl) (fun _ _ _ h => h) (by rfl) ?hy53 (by assumption) ?rest53
            case hy53 => ((intro w hSw); (try dsimp only at hSw); go_simp; (try with_reducible rfl))
            (try simp only [Act.put, List.setIfInBounds_toArray, List.set_cons_zero, List.set_cons_succ])
            refine Draw.take_w (i := 27) (v := ?vv54) rfl (by kernel_rfl) (by kernel_rfl) (by kernel_rfl) (fun _ _ _ h => h) (by rfl) ?hy54 (by assumption) ?rest54
            case hy54 => ((intro w hSw); (try dsimp only at hSw); go_simp; (try with_reducible rfl))
            (try simp only [Act.put, List.setIfInBounds_toArray, List.set_cons_zero, List.set_cons_succ])
            refine wpAnyH_done (by kernel_rfl) ?_ _
            go_wp2_with (fail)
            go_region_held3 (fun W => W.cell? ⟨y, 0, none⟩ = some (.int .u64 c.p) ∧ W.cell? ⟨y, 1, none⟩ = some (.int .u32 c.l) ∧ W.cell? ⟨y, 2, none⟩ = some (.int .u8 c.n)) (first | ((refine c3_start (t := 25) ?_); (show At _ _ (stA c) _); (repeat (first | (with_reducible exact hC) | (with_reducible exact hY) | (with_reducible exact hW) | (with_reducible exact hO) | (with_reducible apply at_drewN) | (with_reducible apply at_drew) | (with_reducible apply at_alloc) | (with_reducible apply at_set') | (with_reducible apply at_set_ne (hne := Nat.ne_of_lt zy)) | (with_reducible apply at_below (k := by assumption)))); all_goals rfl) | exact c3_next (by assumption) hb1) (first | (go_at_call 15; (with_reducible refine (last_b _ c _ ?hcl).mono ?_); (case hcl => ((show At _ _ (clkA c) _); (repeat (first | (with_reducible exact hC) | (with_reducible exact hY) | (with_reducible exact hW) | (with_reducible exact hO) | (with_reducible apply at_drewN) | (with_reducible apply at_drew) | (with_reducible apply at_alloc) | (with_reducible apply at_set') | (with_reducible apply at_set_ne (hne := Nat.ne_of_lt zy)) | (with_reducible apply at_below (k := by assumption)))); all_goals rfl)); rintro e w3 ⟨rfl, hb1⟩))
            go_wp2_with (fail)
            go_roundw
            case rel =>
              refine ⟨k + 1, by omega, by go_num, ?_, ?_, ?_⟩
              · refine At.lt (b := y) (cs := stA c) (t := 25) ?_
                (repeat (first | (with_reducible exact hC) | (with_reducible exact hY) | (with_reducible exact hW) | (with_reducible exact hO) | (with_reducible apply at_drewN) | (with_reducible apply at_drew) | (with_reducible apply at_alloc) | (with_reducible apply at_set') | (with_reducible apply at_set_ne (hne := Nat.ne_of_lt zy)) | (with_reducible apply at_below (k := by assumption))))
                all_goals rfl
              · refine Lib.hid ⟨c, HG2.out, HN2.out, (show At _ _ (clkA c) _ from ?_), (show At _ _ (stA c) _ from ?_)⟩
                · (repeat (first | (with_reducible exact hC) | (with_reducible exact hY) | (with_reducible exact hW) | (with_reducible exact hO) | (with_reducible apply at_drewN) | (with_reducible apply at_drew) | (with_reducible apply at_alloc) | (with_reducible apply at_set') | (with_reducible apply at_set_ne (hne := Nat.ne_of_lt zy)) | (with_reducible apply at_below (k := by assumption))))
                · (repeat (first | (with_reducible exact hC) | (with_reducible exact hY) | (with_reducible exact hW) | (with_reducible exact hO) | (with_reducible apply at_drewN) | (with_reducible apply at_drew) | (with_reducible apply at_alloc) | (with_reducible apply at_set') | (with_reducible apply at_set_ne (hne := Nat.ne_of_lt zy)) | (with_reducible apply at_below (k := by assumption))))
                  all_goals rfl
              · refine Lib.hid ?_
                (repeat (first | (with_reducible exact HB2.out) | (with_reducible apply below_dn) | (with_reducible apply Below.drew) | (with_reducible apply below_al) | (with_reducible refine below_new ?_ (Nat.le_of_lt zy)) | (with_reducible refine below_on ?_ (by assumption))))
            case measure => simp [intOf]; omega
          · have HG2 := HG
            have HN2 := HN
            have HNW := Lib.hid hn
            clear hn hgd hfd hok hne her hnd he
            go_wp2_with (fail)
            refine (last_b _ c _ (at_alloc HC.out)).mono ?_
            rintro e w1 ⟨rfl, h1⟩
            have HC1 := Lib.hid (at_below (at_alloc (o := .cells #[.int .i64 0, .int .i64 mm, .int .u64 p, .int .u32 l, .int .u8 n] 40) HC.out) h1)
            have HY1 := Lib.hid (at_below (at_alloc (o := .cells #[.int .i64 0, .int .i64 mm, .int .u64 p, .int .u32 l, .int .u8 n] 40) HY.out) h1)
            have HO1 := Lib.hid (at_below (at_new wr #[.int .i64 0, .int .i64 mm, .int .u64 p, .int .u32 l, .int .u8 n] 40) h1)
            have HB1 := Lib.hid (below_on (below_al HB.out) h1)
            have z2 : wr.heap.size < w1.heap.size := At.lt HO1.out
            have z3 : w.heap.size < w1.heap.size := At.lt HC1.out
            clear HC HY HB h1
            obtain ⟨x0, x1, x2, x3, x4, -⟩ := at5 HO1.out
            go_wp2_with (fail)
            refine (HNW.out _ (at_alloc HC1.out)).mono ?_
            rintro e w2 ⟨rfl, a2, h2⟩
            have hC : At w2 w.heap.size (clkA c) 60 := a2
            have hY := at_chg (at_alloc (o := .cells #[.int .u64 c.p, .int .u32 c.l, .int .u8 c.n] 25) HY1.out) h2 (Nat.ne_of_gt zy)
            have hW := at_chg (at_new w1 #[.int .u64 c.p, .int .u32 c.l, .int .u8 c.n] 25) h2 (Nat.ne_of_gt z3)
            have hO := at_chg (at_alloc (o := .cells #[.int .u64 c.p, .int .u32 c.l, .int .u8 c.n] 25) HO1.out) h2 (Nat.ne_of_gt (Nat.lt_trans zy z1))
            have HB2 := Lib.hid (below_chg (below_al (o := .cells #[.int .u64 c.p, .int .u32 c.l, .int .u8 c.n] 25) HB1.out) h2 (fun i h => by omega))
            have zw2 : y < w2.heap.size := At.lt hY
            clear a2 h2 x0 x1 x2 x3 x4 HC1 HY1 HO1 HB1
            have hS := at_new w2 #[.int .u64 s1, .int .u32 s2, .int .u8 s3] 25
            go_wp2_with (fail)
            refine wp_region_held_drew (S := (fun W => W.cell? ⟨y, 0, none⟩ = some (.int .u64 c.p) ∧ W.cell? ⟨y, 1, none⟩ = some (.int .u32 c.l) ∧ W.cell? ⟨y, 2, none⟩ = some (.int .u8 c.n) ∧ W.frozen? ⟨y, 0, none⟩ = false ∧ W.frozen? ⟨y, 1, none⟩ = false ∧ W.frozen? ⟨y, 2, none⟩ = false ∧ W.cell? ⟨w2.heap.size, 0, none⟩ = some (.int .u64 s1) ∧ W.cell? ⟨w2.heap.size, 1, none⟩ = some (.int .u32 s2) ∧ W.cell? ⟨w2.heap.size, 2, none⟩ = some (.int .u8 s3) ∧ W.cell? ⟨w1.heap.size, 0, none⟩ = some (.int .u64 c.p) ∧ W.cell? ⟨w1.heap.size, 1, none⟩ = some (.int .u32 c.l) ∧ W.cell? ⟨w1.heap.size, 2, none⟩ = some (.int .u8 c.n))) (by kernel_rfl) ?_ (fun hHeld => ?_)
            · (try dsimp only)
              exact s12_start (at_drew (at_alloc hY)) (at_drew hS) (at_drew (at_alloc hW))
            refine Draw.take_w (i := 0) (v := ?vv55) rfl (by kernel_rfl) (by kernel_rfl) (by kernel_rfl) (fun _ _ _ h => h) (by rfl) ?hy55 (by assumption) ?rest55
            case hy55 => ((intro w hSw); (try dsimp only at hSw); go_simp; (try with_reducible rfl))
            (try simp only [Act.put, List.setIfInBounds_toArray, List.set_cons_zero, List.set_cons_succ])
            refine Draw.take_w (i := 1) (v := ?vv56) rfl (by kernel_rfl) (by kernel_rfl) (by kernel_rfl) (fun _ _ _ h => h) (by rfl) ?hy56 (by assumption) ?rest56
            case hy56 => ((intro w hSw); (try dsimp only at hSw); go_simp; (try with_reducible rfl))
            (try simp only [Act.put, List.setIfInBounds_toArray, List.set_cons_zero, List.set_cons_succ])
            refine Draw.take_w (i := 2) (v := ?vv57) rfl (by kernel_rfl) (by kernel_rfl) (by kernel_rfl) (fun _ _ _ h => h) (by rfl) ?hy57 (by assumption) ?rest57
            case hy57 => ((intro w hSw); (try dsimp only at hSw); go_simp; (try with_reducible rfl))
            (try simp only [Act.put, List.setIfInBounds_toArray, List.set_cons_zero, List.set_cons_succ])
            refine Draw.take_u (i := 3) rfl (by kernel_rfl) (by kernel_rfl) (by kernel_rfl) (fun _ _ _ h => h) (by rfl) (by assumption) ?_
            (try simp only [Act.put, List.setIfInBounds_toArray, List.set_cons_zero, List.set_cons_succ])
            refine Draw.take_u (i := 4) rfl (by kernel_rfl) (by kernel_rfl) (by kernel_rfl) (fun _ _ _ h => h) (by rfl) (by assumption) ?_
            (try simp only [Act.put, List.setIfInBounds_toArray, List.set_cons_zero, List.set_cons_succ])
            refine Draw.take_u (i := 5) rfl (by kernel_rfl) (by kernel_rfl) (by kernel_rfl) (fun _ _ _ h => h) (by rfl) (by assumption) ?_
            (try simp only [Act.put, List.setIfInBounds_toArray, List.set_cons_zero, List.set_cons_succ])
            refine Draw.take_u (i := 6) rfl (by kernel_rfl) (by kernel_rfl) (by kernel_rfl) (fun _ _ _ h => h) (by rfl) (by assumption) ?_
            (try simp only [Act.put, List.setIfInBounds_toArray, List.set_cons_zero, List.set_cons_succ])
            refine Draw.take_w (i := 7) (v := ?vv62) rfl (by kernel_rfl) (by kernel_rfl) (by kernel_rfl) (fun _ _ _ h => h) (by rfl) ?hy62 (by assumption) ?rest62
            case hy62 => ((intro w hSw); (try dsimp only at hSw); go_simp; (try with_reducible rfl))
            (try simp only [Act.put, List.setIfInBounds_toArray, List.set_cons_zero, List.set_cons_succ])
            refine Draw.take_w (i := 8) (v := ?vv63) rfl (by kernel_rfl) (by kernel_rfl) (by kernel_rfl) (fun _ _ _ h => h) (by rfl) ?hy63 (by assumption) ?rest63
            case hy63 => ((intro w hSw); (try dsimp only at hSw); go_simp; (try with_reducible rfl))
            (try simp only [Act.put, List.setIfInBounds_toArray, List.set_cons_zero, List.set_cons_succ])
            refine Draw.take_w (i := 9) (v := ?vv64) rfl (by kernel_rfl) (by kernel_rfl) (by kernel_rfl) (fun _ _ _ h => h) (by rfl) ?hy64 (by assumption) ?rest64
            case hy64 => ((intro w hSw); (try dsimp only at hSw); go_simp; (try with_reducible rfl))
            (try simp only [Act.put, List.setIfInBounds_toArray, List.set_cons_zero, List.set_cons_succ])
            refine Draw.take_w (i := 10) (v := ?vv65) rfl (by kernel_rfl) (by kernel_rfl) (by kernel_rfl) (fun _ _ _ h => h) (by rfl) ?hy65 (by assumption) ?rest65
            case hy65 => ((intro w hSw); (try dsimp only at hSw); go_simp; (try with_reducible rfl))
            (try simp only [Act.put, List.setIfInBounds_toArray, List.set_cons_zero, List.set_cons_succ])
            refine Draw.take_w (i := 11) (v := ?vv66) rfl (by kernel_rfl) (by kernel_rfl) (by kernel_rfl) (fun _ _ _ h => h) (by rfl) ?hy66 (by assumption) ?rest66
            case hy66 => ((intro w hSw); (try dsimp only at hSw); go_simp; (try with_reducible rfl))
            (try simp only [Act.put, List.setIfInBounds_toArray, List.set_cons_zero, List.set_cons_succ])
            refine Draw.take_u (i := 12) rfl (by kernel_rfl) (by kernel_rfl) (by kernel_rfl) (fun _ _ _ h => h) (by rfl) (by assumption) ?_
            (try simp only [Act.put, List.setIfInBounds_toArray, List.set_cons_zero, List.set_cons_succ])
            refine Draw.take_u (i := 13) rfl (by kernel_rfl) (by kernel_rfl) (by kernel_rfl) (fun _ _ _ h => h) (by rfl) (by assumption) ?_
            (try simp only [Act.put, List.setIfInBounds_toArray, List.set_cons_zero, List.set_cons_succ])
            refine Draw.take_u (i := 14) rfl (by kernel_rfl) (by kernel_rfl) (by kernel_rfl) (fun _ _ _ h => h) (by rfl) (by assumption) ?_
            (try simp only [Act.put, List.setIfInBounds_toArray, List.set_cons_zero, List.set_cons_succ])
            refine Draw.take_u (i := 15) rfl (by kernel_rfl) (by kernel_rfl) (by kernel_rfl) (fun _ _ _ h => h) (by rfl) (by assumption) ?_
            (try simp only [Act.put, List.setIfInBounds_toArray, List.set_cons_zero, List.set_cons_succ])
            refine Draw.take_w (i := 16) (v := ?vv71) rfl (by kernel_rfl) (by kernel_rfl) (by kernel_rfl) (fun _ _ _ h => h) (by rfl) ?hy71 (by assumption) ?rest71
            case hy71 => ((intro w hSw); (try dsimp only at hSw); go_simp; (try with_reducible rfl))
            (try simp only [Act.put, List.setIfInBounds_toArray, List.set_cons_zero, List.set_cons_succ])
            refine Draw.take_w (i := 17) (v := ?vv72) rfl (by kernel_rfl) (by kernel_rfl) (by kernel_rfl) (fun _ _ _ h => h) (by rfl) ?hy72 (by assumption) ?rest72
            case hy72 => ((intro w hSw); (try dsimp only at hSw); go_simp; (try with_reducible rfl))
            (try simp only [Act.put, List.setIfInBounds_toArray, List.set_cons_zero, List.set_cons_succ])
            refine Draw.take_w (i := 18) (v := ?vv73) rfl (by kernel_rfl) (by kernel_rfl) (by kernel_rfl) (fun _ _ _ h => h) (by rfl) ?hy73 (by assumption) ?rest73
            case hy73 => ((intro w hSw); (try dsimp only at hSw); go_simp; (try with_reducible rfl))
            (try simp only [Act.put, List.setIfInBounds_toArray, List.set_cons_zero, List.set_cons_succ])
            refine Draw.take_w (i := 19) (v := ?vv74) rfl (by kernel_rfl) (by kernel_rfl) (by kernel_rfl) (fun _ _ _ h => h) (by rfl) ?hy74 (by assumption) ?rest74
            case hy74 => ((intro w hSw); (try dsimp only at hSw); go_simp; (try with_reducible rfl))
            (try simp only [Act.put, List.setIfInBounds_toArray, List.set_cons_zero, List.set_cons_succ])
            refine Draw.take_w (i := 20) (v := ?vv75) rfl (by kernel_rfl) (by kernel_rfl) (by kernel_rfl) (fun _ _ _ h => h) (by rfl) ?hy75 (by assumption) ?rest75
            case hy75 => ((intro w hSw); (try dsimp only at hSw); go_simp; (try with_reducible rfl))
            (try simp only [Act.put, List.setIfInBounds_toArray, List.set_cons_zero, List.set_cons_succ])
            refine Draw.take_w (i := 21) (v := ?vv76) rfl (by kernel_rfl) (by kernel_rfl) (by kernel_rfl) (fun _ _ _ h => h) (by rfl) ?hy76 (by assumption) ?rest76
            case hy76 => ((intro w hSw); (try dsimp only at hSw); go_simp; (try with_reducible rfl))
            (try simp only [Act.put, List.setIfInBounds_toArray, List.set_cons_zero, List.set_cons_succ])
            refine Draw.take_w (i := 22) (v := ?vv77) rfl (by kernel_rfl) (by kernel_rfl) (by kernel_rfl) (fun _ _ _ h => h) (by rfl) ?hy77 (by assumption) ?rest77
            case hy77 => ((intro w hSw); (try dsimp only at hSw); go_simp; (try with_reducible rfl))
            (try simp only [Act.put, List.setIfInBounds_toArray, List.set_cons_zero, List.set_cons_succ])
            refine Draw.take_w (i := 24) (v := ?vv78) rfl (by kernel_rfl) (by kernel_rfl) (by kernel_rfl) (fun _ _ _ h => h) (by rfl) ?hy78 (by assumption) ?rest78
            case hy78 => ((intro w hSw); (try dsimp only at hSw); go_simp; (try with_reducible rfl))
            (try simp only [Act.put, List.setIfInBounds_toArray, List.set_cons_zero, List.set_cons_succ])
            refine Draw.call_d (i := 23) rfl (by kernel_rfl) (by rfl) (fun K hK => ?_)
            go_simp
            (go_at_call 15; (with_reducible refine (last_b _ c _ ?hcl).mono ?_); (case hcl => ((show At _ _ (clkA c) _); (repeat (first | (with_reducible exact hC) | (with_reducible exact hY) | (with_reducible exact hW) | (with_reducible exact hO) | (with_reducible apply at_drewN) | (with_reducible apply at_drew) | (with_reducible apply at_alloc) | (with_reducible apply at_set') | (with_reducible apply at_set_ne (hne := Nat.ne_of_lt zy)) | (with_reducible apply at_below (k := by assumption)))); all_goals rfl)); rintro e w3 ⟨rfl, hb1⟩)
            refine hK.out _ _ ?_ (fun hHeld => ?_)
            · (try dsimp only)
              exact s12_next (by assumption) hb1
            clear hK K
            (try simp only [Act.put, List.setIfInBounds_toArray, List.set_cons_zero, List.set_cons_succ])
            refine Draw.take_w (i := 25) (v := ?vv79) rfl (by kernel_rfl) (by kernel_rfl) (by kernel_rfl) (fun _ _ _ h => h) (by rfl) ?hy79 (by assumption) ?rest79
            case hy79 => ((intro w hSw); (try dsimp only at hSw); go_simp; (try with_reducible rfl))
            (try simp only [Act.put, List.setIfInBounds_toArray, List.set_cons_zero, List.set_cons_succ])
            refine Draw.take_w (i := 26) (v := ?vv80) rfl (by kernel_rfl) (by kernel_rfl) (by kernel_rfl) (fun _ _ _ h => h) (by rfl) ?hy80 (by assumption) ?rest80
            case hy80 => ((intro w hSw); (try dsimp only at hSw); go_simp; (try with_reducible rfl))
            (try simp only [Act.put, List.setIfInBounds_toArray, List.set_cons_zero, List.set_cons_succ])
            refine Draw.take_w (i := 27) (v := ?vv81) rfl (by kernel_rfl) (by kernel_rfl) (by kernel_rfl) (fun _ _ _ h => h) (by rfl) ?hy81 (by assumption) ?rest81
            case hy81 => ((intro w hSw); (try dsimp only at hSw); go_simp; (try with_reducible rfl))
            (try simp only [Act.put, List.setIfInBounds_toArray, List.set_cons_zero, List.set_cons_succ])
            refine wpAnyH_done (by kernel_rfl) ?_ _
            go_wp2_with (fail)
            go_region_held3 (fun W => W.cell? ⟨y, 0, none⟩ = some (.int .u64 c.p) ∧ W.cell? ⟨y, 1, none⟩ = some (.int .u32 c.l) ∧ W.cell? ⟨y, 2, none⟩ = some (.int .u8 c.n)) (first | ((refine c3_start (t := 25) ?_); (show At _ _ (stA c) _); (repeat (first | (with_reducible exact hC) | (with_reducible exact hY) | (with_reducible exact hW) | (with_reducible exact hO) | (with_reducible apply at_drewN) | (with_reducible apply at_drew) | (with_reducible apply at_alloc) | (with_reducible apply at_set') | (with_reducible apply at_set_ne (hne := Nat.ne_of_lt zy)) | (with_reducible apply at_below (k := by assumption)))); all_goals rfl) | exact c3_next (by assumption) hb1) (first | (go_at_call 15; (with_reducible refine (last_b _ c _ ?hcl).mono ?_); (case hcl => ((show At _ _ (clkA c) _); (repeat (first | (with_reducible exact hC) | (with_reducible exact hY) | (with_reducible exact hW) | (with_reducible exact hO) | (with_reducible apply at_drewN) | (with_reducible apply at_drew) | (with_reducible apply at_alloc) | (with_reducible apply at_set') | (with_reducible apply at_set_ne (hne := Nat.ne_of_lt zy)) | (with_reducible apply at_below (k := by assumption)))); all_goals rfl)); rintro e w3 ⟨rfl, hb1⟩))
            go_wp2_with (fail)
            go_roundw
            case rel =>
              refine ⟨k + 1, by omega, by go_num, ?_, ?_, ?_⟩
              · refine At.lt (b := y) (cs := stA c) (t := 25) ?_
                (repeat (first | (with_reducible exact hC) | (with_reducible exact hY) | (with_reducible exact hW) | (with_reducible exact hO) | (with_reducible apply at_drewN) | (with_reducible apply at_drew) | (with_reducible apply at_alloc) | (with_reducible apply at_set') | (with_reducible apply at_set_ne (hne := Nat.ne_of_lt zy)) | (with_reducible apply at_below (k := by assumption))))
                all_goals rfl
              · refine Lib.hid ⟨c, HG2.out, HN2.out, (show At _ _ (clkA c) _ from ?_), (show At _ _ (stA c) _ from ?_)⟩
                · (repeat (first | (with_reducible exact hC) | (with_reducible exact hY) | (with_reducible exact hW) | (with_reducible exact hO) | (with_reducible apply at_drewN) | (with_reducible apply at_drew) | (with_reducible apply at_alloc) | (with_reducible apply at_set') | (with_reducible apply at_set_ne (hne := Nat.ne_of_lt zy)) | (with_reducible apply at_below (k := by assumption))))
                · (repeat (first | (with_reducible exact hC) | (with_reducible exact hY) | (with_reducible exact hW) | (with_reducible exact hO) | (with_reducible apply at_drewN) | (with_reducible apply at_drew) | (with_reducible apply at_alloc) | (with_reducible apply at_set') | (with_reducible apply at_set_ne (hne := Nat.ne_of_lt zy)) | (with_reducible apply at_below (k := by assumption))))
                  all_goals rfl
              · refine Lib.hid ?_
                (repeat (first | (with_reducible exact HB2.out) | (with_reducible apply below_dn) | (with_reducible apply Below.drew) | (with_reducible apply below_al) | (with_reducible refine below_new ?_ (Nat.le_of_lt zy)) | (with_reducible refine below_on ?_ (by assumption))))
            case measure => simp [intOf]; omega
      by_cases hk1 : kk = 1
      · subst hk1
        have hn := fun W hc => see_any w.heap.size c p l n W hc HG.out bp.1 bp.2 bl.1 bl.2 bn.1 bn.2
        have hgd := good_see (c := c) (p := p) (l := l) (n := n) HG.out bp.1 bl.1 bl.2 bn.1
        unfold seeC at hn hgd
        by_cases hs1 : 63 < n ∨ c.time + c.drift < p
        · rw [if_pos hs1] at hn
          simp only [] at hn
          have HNW := Lib.hid hn
          have HG2 := HG
          have HN2 := HN
          clear hn hgd hs1
          go_wp2_with (fail)
          refine (last_b _ c _ (at_alloc HC.out)).mono ?_
          rintro e w1 ⟨rfl, h1⟩
          have HC1 := Lib.hid (at_below (at_alloc (o := .cells #[.int .i64 1, .int .i64 mm, .int .u64 p, .int .u32 l, .int .u8 n] 40) HC.out) h1)
          have HY1 := Lib.hid (at_below (at_alloc (o := .cells #[.int .i64 1, .int .i64 mm, .int .u64 p, .int .u32 l, .int .u8 n] 40) HY.out) h1)
          have HO1 := Lib.hid (at_below (at_new wr #[.int .i64 1, .int .i64 mm, .int .u64 p, .int .u32 l, .int .u8 n] 40) h1)
          have HB1 := Lib.hid (below_on (below_al HB.out) h1)
          have z2 : wr.heap.size < w1.heap.size := At.lt HO1.out
          have z3 : w.heap.size < w1.heap.size := At.lt HC1.out
          clear HC HY HB h1
          obtain ⟨x0, x1, x2, x3, x4, -⟩ := at5 HO1.out
          go_wp2_with (fail)
          refine (HNW.out _ (at_alloc HC1.out)).mono ?_
          rintro e w2 ⟨rfl, a2, h2⟩
          have hC : At w2 w.heap.size (clkA c) 60 := a2
          have hY := at_chg (at_alloc (o := .cells #[.int .u64 c.p, .int .u32 c.l, .int .u8 c.n] 25) HY1.out) h2 (Nat.ne_of_gt zy)
          have hW := at_chg (at_new w1 #[.int .u64 c.p, .int .u32 c.l, .int .u8 c.n] 25) h2 (Nat.ne_of_gt z3)
          have hO := at_chg (at_alloc (o := .cells #[.int .u64 c.p, .int .u32 c.l, .int .u8 c.n] 25) HO1.out) h2 (Nat.ne_of_gt (Nat.lt_trans zy z1))
          have HB2 := Lib.hid (below_chg (below_al (o := .cells #[.int .u64 c.p, .int .u32 c.l, .int .u8 c.n] 25) HB1.out) h2 (fun i h => by omega))
          have zw2 : y < w2.heap.size := At.lt hY
          clear a2 h2 x0 x1 x2 x3 x4 HC1 HY1 HO1 HB1
          go_wp2_with (fail)
          go_region_held3 (fun W => W.cell? ⟨w1.heap.size, 0, none⟩ = some (.int .u64 c.p) ∧ W.cell? ⟨w1.heap.size, 1, none⟩ = some (.int .u32 c.l) ∧ W.cell? ⟨w1.heap.size, 2, none⟩ = some (.int .u8 c.n)) (first | exact c3_start (at_drew hW) | exact c3_next (by assumption) hb1) (first | (go_at_call 15; (with_reducible refine (last_b _ c _ ?hcl).mono ?_); (case hcl => ((show At _ _ (clkA c) _); (repeat (first | (with_reducible exact hC) | (with_reducible exact hY) | (with_reducible exact hW) | (with_reducible exact hO) | (with_reducible apply at_drewN) | (with_reducible apply at_drew) | (with_reducible apply at_alloc) | (with_reducible apply at_set') | (with_reducible apply at_set_ne (hne := Nat.ne_of_lt zy)) | (with_reducible apply at_below (k := by assumption)))); all_goals rfl)); rintro e w3 ⟨rfl, hb1⟩))
          go_wp2_with (fail)
          go_region_held3 (fun W => W.cell? ⟨y, 0, none⟩ = some (.int .u64 c.p) ∧ W.cell? ⟨y, 1, none⟩ = some (.int .u32 c.l) ∧ W.cell? ⟨y, 2, none⟩ = some (.int .u8 c.n)) (first | ((refine c3_start (t := 25) ?_); (show At _ _ (stA c) _); (repeat (first | (with_reducible exact hC) | (with_reducible exact hY) | (with_reducible exact hW) | (with_reducible exact hO) | (with_reducible apply at_drewN) | (with_reducible apply at_drew) | (with_reducible apply at_alloc) | (with_reducible apply at_set') | (with_reducible apply at_set_ne (hne := Nat.ne_of_lt zy)) | (with_reducible apply at_below (k := by assumption)))); all_goals rfl) | exact c3_next (by assumption) hb1) (first | (go_at_call 15; (with_reducible refine (last_b _ c _ ?hcl).mono ?_); (case hcl => ((show At _ _ (clkA c) _); (repeat (first | (with_reducible exact hC) | (with_reducible exact hY) | (with_reducible exact hW) | (with_reducible exact hO) | (with_reducible apply at_drewN) | (with_reducible apply at_drew) | (with_reducible apply at_alloc) | (with_reducible apply at_set') | (with_reducible apply at_set_ne (hne := Nat.ne_of_lt zy)) | (with_reducible apply at_below (k := by assumption)))); all_goals rfl)); rintro e w3 ⟨rfl, hb1⟩))
          go_wp2_with (fail)
          go_roundw
          case rel =>
            refine ⟨k + 1, by omega, by go_num, ?_, ?_, ?_⟩
            · refine At.lt (b := y) (cs := stA c) (t := 25) ?_
              (repeat (first | (with_reducible exact hC) | (with_reducible exact hY) | (with_reducible exact hW) | (with_reducible exact hO) | (with_reducible apply at_drewN) | (with_reducible apply at_drew) | (with_reducible apply at_alloc) | (with_reducible apply at_set') | (with_reducible apply at_set_ne (hne := Nat.ne_of_lt zy)) | (with_reducible apply at_below (k := by assumption))))
              all_goals rfl
            · refine Lib.hid ⟨c, HG2.out, HN2.out, (show At _ _ (clkA c) _ from ?_), (show At _ _ (stA c) _ from ?_)⟩
              · (repeat (first | (with_reducible exact hC) | (with_reducible exact hY) | (with_reducible exact hW) | (with_reducible exact hO) | (with_reducible apply at_drewN) | (with_reducible apply at_drew) | (with_reducible apply at_alloc) | (with_reducible apply at_set') | (with_reducible apply at_set_ne (hne := Nat.ne_of_lt zy)) | (with_reducible apply at_below (k := by assumption))))
              · (repeat (first | (with_reducible exact hC) | (with_reducible exact hY) | (with_reducible exact hW) | (with_reducible exact hO) | (with_reducible apply at_drewN) | (with_reducible apply at_drew) | (with_reducible apply at_alloc) | (with_reducible apply at_set') | (with_reducible apply at_set_ne (hne := Nat.ne_of_lt zy)) | (with_reducible apply at_below (k := by assumption))))
                all_goals rfl
            · refine Lib.hid ?_
              (repeat (first | (with_reducible exact HB2.out) | (with_reducible apply below_dn) | (with_reducible apply Below.drew) | (with_reducible apply below_al) | (with_reducible refine below_new ?_ (Nat.le_of_lt zy)) | (with_reducible refine below_on ?_ (by assumption))))
          case measure => simp [intOf]; omega
        · rw [if_neg hs1] at hn hgd
          by_cases hs2 : cmpS c.p c.l c.n p l n = -1
          · rw [if_pos hs2] at hn hgd
            simp only [] at hn hgd
            have h17 := fun W => less_any c.p c.l c.n p l n W
            rw [show lessS c.p c.l c.n p l n = true from by unfold lessS; rw [hs2]; rfl] at h17
            have HN2 := HN
            have H17 := Lib.hid h17
            have HNW := Lib.hid hn
            have HG2 := Lib.hid hgd
            clear hn hgd h17 hs1 hs2 HG
            go_wp2_with (fail)
            refine (last_b _ c _ (at_alloc HC.out)).mono ?_
            rintro e w1 ⟨rfl, h1⟩
            have HC1 := Lib.hid (at_below (at_alloc (o := .cells #[.int .i64 1, .int .i64 mm, .int .u64 p, .int .u32 l, .int .u8 n] 40) HC.out) h1)
            have HY1 := Lib.hid (at_below (at_alloc (o := .cells #[.int .i64 1, .int .i64 mm, .int .u64 p, .int .u32 l, .int .u8 n] 40) HY.out) h1)
            have HO1 := Lib.hid (at_below (at_new wr #[.int .i64 1, .int .i64 mm, .int .u64 p, .int .u32 l, .int .u8 n] 40) h1)
            have HB1 := Lib.hid (below_on (below_al HB.out) h1)
            have z2 : wr.heap.size < w1.heap.size := At.lt HO1.out
            have z3 : w.heap.size < w1.heap.size := At.lt HC1.out
            clear HC HY HB h1
            obtain ⟨x0, x1, x2, x3, x4, -⟩ := at5 HO1.out
            go_wp2_with (fail)
            refine (HNW.out _ (at_alloc HC1.out)).mono ?_
            rintro e w2 ⟨rfl, a2, h2⟩
            have hC : At w2 w.heap.size (clkA ({ c with p := p, l := l, n := n } : Clk)) 60 := a2
            have hY := at_chg (at_alloc (o := .cells #[.int .u64 c.p, .int .u32 c.l, .int .u8 c.n] 25) HY1.out) h2 (Nat.ne_of_gt zy)
            have hW := at_chg (at_new w1 #[.int .u64 c.p, .int .u32 c.l, .int .u8 c.n] 25) h2 (Nat.ne_of_gt z3)
            have hO := at_chg (at_alloc (o := .cells #[.int .u64 c.p, .int .u32 c.l, .int .u8 c.n] 25) HO1.out) h2 (Nat.ne_of_gt (Nat.lt_trans zy z1))
            have HB2 := Lib.hid (below_chg (below_al (o := .cells #[.int .u64 c.p, .int .u32 c.l, .int .u8 c.n] 25) HB1.out) h2 (fun i h => by omega))
            have zw2 : y < w2.heap.size := At.lt hY
            clear a2 h2 x0 x1 x2 x3 x4 HC1 HY1 HO1 HB1
            obtain ⟨y0, y1, y2, yf0, yf1, yf2⟩ := at3 hY
            obtain ⟨-, -, x2, x3, x4, -⟩ := at5 hO
            go_wp2_with (fail)
            refine (H17.out _).mono ?_
            rintro e w3 ⟨rfl, h3⟩
            replace hY := at_below hY h3
            replace hC := at_below hC h3
            replace hO := at_below hO h3
            replace HB2 := Lib.hid (below_on HB2.out h3)
            clear y0 y1 y2 yf0 yf1 yf2 x2 x3 x4 h3 hW
            obtain ⟨y0, y1, y2, yf0, yf1, yf2⟩ := at3 hY
            obtain ⟨-, -, x2, x3, x4, -⟩ := at5 hO
            go_wp2_with (fail)
            go_quiet (fail)
            go_wp2_with (fail)
            go_region_held3 (fun W => W.cell? ⟨y, 0, none⟩ = some (.int .u64 p) ∧ W.cell? ⟨y, 1, none⟩ = some (.int .u32 l) ∧ W.cell? ⟨y, 2, none⟩ = some (.int .u8 n)) (first | ((refine c3_start (t := 25) ?_); (show At _ _ (stA ({ c with p := p, l := l, n := n } : Clk)) _); (repeat (first | (with_reducible exact hC) | (with_reducible exact hY) | (with_reducible exact hO) | (with_reducible apply at_drewN) | (with_reducible apply at_drew) | (with_reducible apply at_alloc) | (with_reducible apply at_set') | (with_reducible apply at_set_ne (hne := Nat.ne_of_lt zy)) | (with_reducible apply at_below (k := by assumption)))); all_goals rfl) | exact c3_next (by assumption) hb1) (first | (go_at_call 15; (with_reducible refine (last_b _ ({ c with p := p, l := l, n := n } : Clk) _ ?hcl).mono ?_); (case hcl => ((show At _ _ (clkA ({ c with p := p, l := l, n := n } : Clk)) _); (repeat (first | (with_reducible exact hC) | (with_reducible exact hY) | (with_reducible exact hO) | (with_reducible apply at_drewN) | (with_reducible apply at_drew) | (with_reducible apply at_alloc) | (with_reducible apply at_set') | (with_reducible apply at_set_ne (hne := Nat.ne_of_lt zy)) | (with_reducible apply at_below (k := by assumption)))); all_goals rfl)); rintro e w3 ⟨rfl, hb1⟩))
            go_wp2_with (fail)
            go_roundw
            case rel =>
              refine ⟨k + 1, by omega, by go_num, ?_, ?_, ?_⟩
              · refine At.lt (b := y) (cs := stA ({ c with p := p, l := l, n := n } : Clk)) (t := 25) ?_
                (repeat (first | (with_reducible exact hC) | (with_reducible exact hY) | (with_reducible exact hO) | (with_reducible apply at_drewN) | (with_reducible apply at_drew) | (with_reducible apply at_alloc) | (with_reducible apply at_set') | (with_reducible apply at_set_ne (hne := Nat.ne_of_lt zy)) | (with_reducible apply at_below (k := by assumption))))
                all_goals rfl
              · refine Lib.hid ⟨({ c with p := p, l := l, n := n } : Clk), HG2.out, HN2.out, (show At _ _ (clkA ({ c with p := p, l := l, n := n } : Clk)) _ from ?_), (show At _ _ (stA ({ c with p := p, l := l, n := n } : Clk)) _ from ?_)⟩
                · (repeat (first | (with_reducible exact hC) | (with_reducible exact hY) | (with_reducible exact hO) | (with_reducible apply at_drewN) | (with_reducible apply at_drew) | (with_reducible apply at_alloc) | (with_reducible apply at_set') | (with_reducible apply at_set_ne (hne := Nat.ne_of_lt zy)) | (with_reducible apply at_below (k := by assumption))))
                · (repeat (first | (with_reducible exact hC) | (with_reducible exact hY) | (with_reducible exact hO) | (with_reducible apply at_drewN) | (with_reducible apply at_drew) | (with_reducible apply at_alloc) | (with_reducible apply at_set') | (with_reducible apply at_set_ne (hne := Nat.ne_of_lt zy)) | (with_reducible apply at_below (k := by assumption))))
                  all_goals rfl
              · refine Lib.hid ?_
                (repeat (first | (with_reducible exact HB2.out) | (with_reducible apply below_dn) | (with_reducible apply Below.drew) | (with_reducible apply below_al) | (with_reducible refine below_new ?_ (Nat.le_of_lt zy)) | (with_reducible refine below_on ?_ (by assumption))))
            case measure => simp [intOf]; omega
          · rw [if_neg hs2] at hn
            simp only [] at hn
            have h17 := fun W => less_any c.p c.l c.n p l n W
            rw [show lessS c.p c.l c.n p l n = false from by unfold lessS; simpa using hs2] at h17
            have H17 := Lib.hid h17
            have HNW := Lib.hid hn
            have HG2 := HG
            have HN2 := HN
            clear hn hgd h17 hs1 hs2
            go_wp2_with (fail)
            refine (last_b _ c _ (at_alloc HC.out)).mono ?_
            rintro e w1 ⟨rfl, h1⟩
            have HC1 := Lib.hid (at_below (at_alloc (o := .cells #[.int .i64 1, .int .i64 mm, .int .u64 p, .int .u32 l, .int .u8 n] 40) HC.out) h1)
            have HY1 := Lib.hid (at_below (at_alloc (o := .cells #[.int .i64 1, .int .i64 mm, .int .u64 p, .int .u32 l, .int .u8 n] 40) HY.out) h1)
            have HO1 := Lib.hid (at_below (at_new wr #[.int .i64 1, .int .i64 mm, .int .u64 p, .int .u32 l, .int .u8 n] 40) h1)
            have HB1 := Lib.hid (below_on (below_al HB.out) h1)
            have z2 : wr.heap.size < w1.heap.size := At.lt HO1.out
            have z3 : w.heap.size < w1.heap.size := At.lt HC1.out
            clear HC HY HB h1
            obtain ⟨x0, x1, x2, x3, x4, -⟩ := at5 HO1.out
            go_wp2_with (fail)
            refine (HNW.out _ (at_alloc HC1.out)).mono ?_
            rintro e w2 ⟨rfl, a2, h2⟩
            have hC : At w2 w.heap.size (clkA c) 60 := a2
            have hY := at_chg (at_alloc (o := .cells #[.int .u64 c.p, .int .u32 c.l, .int .u8 c.n] 25) HY1.out) h2 (Nat.ne_of_gt zy)
            have hW := at_chg (at_new w1 #[.int .u64 c.p, .int .u32 c.l, .int .u8 c.n] 25) h2 (Nat.ne_of_gt z3)
            have hO := at_chg (at_alloc (o := .cells #[.int .u64 c.p, .int .u32 c.l, .int .u8 c.n] 25) HO1.out) h2 (Nat.ne_of_gt (Nat.lt_trans zy z1))
            have HB2 := Lib.hid (below_chg (below_al (o := .cells #[.int .u64 c.p, .int .u32 c.l, .int .u8 c.n] 25) HB1.out) h2 (fun i h => by omega))
            have zw2 : y < w2.heap.size := At.lt hY
            clear a2 h2 x0 x1 x2 x3 x4 HC1 HY1 HO1 HB1
            obtain ⟨y0, y1, y2, yf0, yf1, yf2⟩ := at3 hY
            obtain ⟨-, -, x2, x3, x4, -⟩ := at5 hO
            go_wp2_with (fail)
            refine (H17.out _).mono ?_
            rintro e w3 ⟨rfl, h3⟩
            replace hY := at_below hY h3
            replace hC := at_below hC h3
            replace HB2 := Lib.hid (below_on HB2.out h3)
            clear y0 y1 y2 yf0 yf1 yf2 x2 x3 x4 h3 hW hO
            go_wp2_with (fail)
            go_quiet (fail)
            go_wp2_with (fail)
            go_region_held3 (fun W => W.cell? ⟨y, 0, none⟩ = some (.int .u64 c.p) ∧ W.cell? ⟨y, 1, none⟩ = some (.int .u32 c.l) ∧ W.cell? ⟨y, 2, none⟩ = some (.int .u8 c.n)) (first | ((refine c3_start (t := 25) ?_); (show At _ _ (stA c) _); (repeat (first | (with_reducible exact hC) | (with_reducible exact hY) | (with_reducible apply at_drewN) | (with_reducible apply at_drew) | (with_reducible apply at_alloc) | (with_reducible apply at_set') | (with_reducible apply at_set_ne (hne := Nat.ne_of_lt zy)) | (with_reducible apply at_below (k := by assumption)))); all_goals rfl) | exact c3_next (by assumption) hb1) (first | (go_at_call 15; (with_reducible refine (last_b _ c _ ?hcl).mono ?_); (case hcl => ((show At _ _ (clkA c) _); (repeat (first | (with_reducible exact hC) | (with_reducible exact hY) | (with_reducible apply at_drewN) | (with_reducible apply at_drew) | (with_reducible apply at_alloc) | (with_reducible apply at_set') | (with_reducible apply at_set_ne (hne := Nat.ne_of_lt zy)) | (with_reducible apply at_below (k := by assumption)))); all_goals rfl)); rintro e w3 ⟨rfl, hb1⟩))
            go_wp2_with (fail)
            go_roundw
            case rel =>
              refine ⟨k + 1, by omega, by go_num, ?_, ?_, ?_⟩
              · refine At.lt (b := y) (cs := stA c) (t := 25) ?_
                (repeat (first | (with_reducible exact hC) | (with_reducible exact hY) | (with_reducible apply at_drewN) | (with_reducible apply at_drew) | (with_reducible apply at_alloc) | (with_reducible apply at_set') | (with_reducible apply at_set_ne (hne := Nat.ne_of_lt zy)) | (with_reducible apply at_below (k := by assumption))))
                all_goals rfl
              · refine Lib.hid ⟨c, HG2.out, HN2.out, (show At _ _ (clkA c) _ from ?_), (show At _ _ (stA c) _ from ?_)⟩
                · (repeat (first | (with_reducible exact hC) | (with_reducible exact hY) | (with_reducible apply at_drewN) | (with_reducible apply at_drew) | (with_reducible apply at_alloc) | (with_reducible apply at_set') | (with_reducible apply at_set_ne (hne := Nat.ne_of_lt zy)) | (with_reducible apply at_below (k := by assumption))))
                · (repeat (first | (with_reducible exact hC) | (with_reducible exact hY) | (with_reducible apply at_drewN) | (with_reducible apply at_drew) | (with_reducible apply at_alloc) | (with_reducible apply at_set') | (with_reducible apply at_set_ne (hne := Nat.ne_of_lt zy)) | (with_reducible apply at_below (k := by assumption))))
                  all_goals rfl
              · refine Lib.hid ?_
                (repeat (first | (with_reducible exact HB2.out) | (with_reducible apply below_dn) | (with_reducible apply Below.drew) | (with_reducible apply below_al) | (with_reducible refine below_new ?_ (Nat.le_of_lt zy)) | (with_reducible refine below_on ?_ (by assumption))))
            case measure => simp [intOf]; omega
      have c0 : (kk == 0) = false := by simpa using hk0
      have c1 : (kk == 1) = false := by simpa using hk1
      clear hk0 hk1
      obtain ⟨c2, hc2⟩ : ∃ c2 : Clk, c2 = passC c mm := ⟨_, rfl⟩
      have hn := fun W hc => pass_any w.heap.size c mm W hc HG.out bm.2
      have hf := pass_fix c mm
      have hgd := good_pass HG.out mm
      rw [← hc2] at hn hf hgd
      have HNW := Lib.hid hn
      have HG2 := Lib.hid hgd
      have HN2 := Lib.hid (hf.1.trans HN.out)
      have hy0 := HY.out
      unfold stA at hy0
      rw [← hf.2.2.2.2.1, ← hf.2.2.2.2.2.1, ← hf.2.2.2.2.2.2] at hy0
      have hp1 := hf.2.2.2.2.1
      have hp2 := hf.2.2.2.2.2.1
      have hp3 := hf.2.2.2.2.2.2
      have HYE := Lib.hid (show stA c = stA c2 by unfold stA; rw [hp1, hp2, hp3])
      clear hn hf hgd hc2 hy0 hp1 hp2 hp3
      go_wp2_with (fail)
      refine (last_b _ c _ (at_alloc HC.out)).mono ?_
      rintro e w1 ⟨rfl, h1⟩
      have HC1 := Lib.hid (at_below (at_alloc (o := .cells #[.int .i64 kk, .int .i64 mm, .int .u64 p, .int .u32 l, .int .u8 n] 40) HC.out) h1)
      have HY1 := Lib.hid (at_below (at_alloc (o := .cells #[.int .i64 kk, .int .i64 mm, .int .u64 p, .int .u32 l, .int .u8 n] 40) HY.out) h1)
      have HO1 := Lib.hid (at_below (at_new wr #[.int .i64 kk, .int .i64 mm, .int .u64 p, .int .u32 l, .int .u8 n] 40) h1)
      have HB1 := Lib.hid (below_on (below_al HB.out) h1)
      have z2 : wr.heap.size < w1.heap.size := At.lt HO1.out
      have z3 : w.heap.size < w1.heap.size := At.lt HC1.out
      clear HC HY HB h1
      obtain ⟨x0, x1, x2, x3, x4, -⟩ := at5 HO1.out
      go_wp2_with (fail)
      refine (HNW.out _ (at_alloc HC1.out)).mono ?_
      rintro e w2 ⟨rfl, a2, h2⟩
      have hC : At w2 w.heap.size (clkA c2) 60 := a2
      have hY := at_chg (at_alloc (o := .cells #[.int .u64 c.p, .int .u32 c.l, .int .u8 c.n] 25) HY1.out) h2 (Nat.ne_of_gt zy)
      have hW := at_chg (at_new w1 #[.int .u64 c.p, .int .u32 c.l, .int .u8 c.n] 25) h2 (Nat.ne_of_gt z3)
      have hO := at_chg (at_alloc (o := .cells #[.int .u64 c.p, .int .u32 c.l, .int .u8 c.n] 25) HO1.out) h2 (Nat.ne_of_gt (Nat.lt_trans zy z1))
      have HB2 := Lib.hid (below_chg (below_al (o := .cells #[.int .u64 c.p, .int .u32 c.l, .int .u8 c.n] 25) HB1.out) h2 (fun i h => by omega))
      have zw2 : y < w2.heap.size := At.lt hY
      clear a2 h2 x0 x1 x2 x3 x4 HC1 HY1 HO1 HB1
      rw [HYE.out] at hY
      go_wp2_with (fail)
      go_region_held3 (fun W => W.cell? ⟨y, 0, none⟩ = some (.int .u64 c2.p) ∧ W.cell? ⟨y, 1, none⟩ = some (.int .u32 c2.l) ∧ W.cell? ⟨y, 2, none⟩ = some (.int .u8 c2.n)) (first | ((refine c3_start (t := 25) ?_); (show At _ _ (stA c2) _); (repeat (first | (with_reducible exact hC) | (with_reducible exact hY) | (with_reducible exact hW) | (with_reducible exact hO) | (with_reducible apply at_drewN) | (with_reducible apply at_drew) | (with_reducible apply at_alloc) | (with_reducible apply at_set') | (with_reducible apply at_set_ne (hne := Nat.ne_of_lt zy)) | (with_reducible apply at_below (k := by assumption)))); all_goals rfl) | exact c3_next (by assumption) hb1) (first | (go_at_call 15; (with_reducible refine (last_b _ c2 _ ?hcl).mono ?_); (case hcl => ((show At _ _ (clkA c2) _); (repeat (first | (with_reducible exact hC) | (with_reducible exact hY) | (with_reducible exact hW) | (with_reducible exact hO) | (with_reducible apply at_drewN) | (with_reducible apply at_drew) | (with_reducible apply at_alloc) | (with_reducible apply at_set') | (with_reducible apply at_set_ne (hne := Nat.ne_of_lt zy)) | (with_reducible apply at_below (k := by assumption)))); all_goals rfl)); rintro e w3 ⟨rfl, hb1⟩))
      go_wp2_with (fail)
      go_roundw
      case rel =>
        refine ⟨k + 1, by omega, by go_num, ?_, ?_, ?_⟩
        · refine At.lt (b := y) (cs := stA c2) (t := 25) ?_
          (repeat (first | (with_reducible exact hC) | (with_reducible exact hY) | (with_reducible exact hW) | (with_reducible exact hO) | (with_reducible apply at_drewN) | (with_reducible apply at_drew) | (with_reducible apply at_alloc) | (with_reducible apply at_set') | (with_reducible apply at_set_ne (hne := Nat.ne_of_lt zy)) | (with_reducible apply at_below (k := by assumption))))
          all_goals rfl
        · refine Lib.hid ⟨c2, HG2.out, HN2.out, (show At _ _ (clkA c2) _ from ?_), (show At _ _ (stA c2) _ from ?_)⟩
          · (repeat (first | (with_reducible exact hC) | (with_reducible exact hY) | (with_reducible exact hW) | (with_reducible exact hO) | (with_reducible apply at_drewN) | (with_reducible apply at_drew) | (with_reducible apply at_alloc) | (with_reducible apply at_set') | (with_reducible apply at_set_ne (hne := Nat.ne_of_lt zy)) | (with_reducible apply at_below (k := by assumption))))
          · (repeat (first | (with_reducible exact hC) | (with_reducible exact hY) | (with_reducible exact hW) | (with_reducible exact hO) | (with_reducible apply at_drewN) | (with_reducible apply at_drew) | (with_reducible apply at_alloc) | (with_reducible apply at_set') | (with_reducible apply at_set_ne (hne := Nat.ne_of_lt zy)) | (with_reducible apply at_below (k := by assumption))))
            all_goals rfl
        · refine Lib.hid ?_
          (repeat (first | (with_reducible exact HB2.out) | (with_reducible apply below_dn) | (with_reducible apply Below.drew) | (with_reducible apply below_al) | (with_reducible refine below_new ?_ (Nat.le_of_lt zy)) | (with_reducible refine below_on ?_ (by assumption))))
      case measure => simp [intOf]; omega
    · obtain rfl : k = m := by omega
      go_wp2_with (go_at_call 9; (with_reducible refine (fixed_any _).mono ?_); rintro e w9 ⟨rfl, hb9⟩)
      go_ret
      exact ⟨rfl, below_on HB.out hb9⟩
end Go.Proofs.Ytcidckcdfacplaa.Hlc

/- HlcBounded answers true: the walk (own text). -/
import Derived.Test.YtcidckcdfacplaaHlcCut
namespace Go.Proofs.Ytcidckcdfacplaa.Hlc
open Go.RowKit Go.Proofs.Ytcidckcdfacplaa.Mem
set_option linter.unusedVariables false
set_option linter.unusedSimpArgs false

set_option maxRecDepth 100000 in
set_option maxHeartbeats 1600000 in
theorem HlcBounded_ok (node time drift : Int) (a : Option Addr) (len cap : Nat) (w : World) (n0 : 0 ≤ node) (n1 : node ≤ 255) (t0 : 0 ≤ time) (t1 : time ≤ 18446744073709551615) (hm : mayC node time drift) (ho : OpsAt w a len cap) :
    Calls Try.prog 6 #[.int .u8 node, .int .u64 time, .int .i64 drift, .slice a len cap] w fun e w' => e = .returned (.bool true) ∧ Below w.heap.size w w' := by
  have hg := good_new (rest := false) hm n0 t0
  obtain ⟨m1, m2, m3, m4⟩ := hm
  have hcl := cutL_le len
  have hcl3 : cutL len ≤ 300 := by unfold cutL; split <;> omega
  have hw : IntKind.u64.wrap drift = drift := IntWalk.u64_in _ ⟨m3, by omega⟩
  generalize hL : cutL len = m at hcl hcl3
  have HL := Lib.hid hL
  clear hL
  have HO := Lib.hid ho
  clear ho
  have hfd : ∀ (w : World) (p l n : Int), (Instr.field 25 (.agg #[.int .u64 p, .int .u32 l, .int .u8 n]) 0).run Try.prog w = .ok (.int .u64 p) w := fun _ _ _ _ => by kernel_rfl
  go_enter Try.func6, Try.ntmps6
  go_wp2_with (fail)
  refine (progNew_ok node time drift false w n0 m1 t0 m2 m3 m4).mono ?_
  rintro e w1 ⟨rfl, a1, h1, z1⟩
  go_wp2_with (fail)
  have hcut := cut_any a len cap w1 HO.out.1 HO.out.2.1
  rw [HL.out] at hcut
  refine hcut.mono ?_
  rintro e w1' ⟨rfl, rfl⟩
  go_wp2_with (fail)
  have HG := Lib.hid hg
  have HA := Lib.hid a1
  have HB := Lib.hid h1
  clear hg a1 h1
  go_loopw [26] (fun v w' => ∃ k : Nat, k ≤ m ∧ v = .int .i64 k ∧ w.heap.size < w'.heap.size ∧ Hid (∃ c : Clk, Good c ∧ c.drift = drift ∧ ClkAt w' w.heap.size c) ∧ Hid (Below w.heap.size w w')) (fun v _ => m - (intOf v).toNat)
  case atStart => exact ⟨0, by omega, rfl, z1, Lib.hid ⟨_, HG.out, rfl, HA.out⟩, HB⟩
  case round =>
    clear HA HB HG z1
    obtain ⟨k, hk, rfl, z1, HC, HB⟩ := hrel
    by_cases hlt : k < m
    · obtain ⟨b, off, kk, mm, p, l, n, rfl, hbw, e0, e1, e2, e3, e4, bk, bm, bp, bl, bn⟩ := ops_at HO.out (show k < len by omega)
      obtain ⟨c, hg, hd, hc⟩ := HC.out
      have hbc := fun i => HB.out.cell (p := ⟨b, i, none⟩) hbw
      rw [← hbc] at e0 e1 e2 e3 e4
      clear hbc HC
      have HC := Lib.hid hc
      have HG := Lib.hid hg
      have HD := Lib.hid hd
      clear hc hg hd hcut
      by_cases hk0 : kk = 0
      · subst hk0
        go_wp2_with (fail)
        refine (now_any _ c _ (at_alloc HC.out) HG.out).mono ?_
        rintro e w2 ⟨rfl, a2, h2⟩
        have hg2 : Good ((nowC c).2.2) := good_now HG.out
        have hd2 : ((nowC c).2.2).drift = drift := (now_fix c).2.1.trans HD.out
        generalize (nowC c).2.2 = c2 at *
        have q1 := hg2.p1
        rw [hd2] at q1
        have q2 := hg2.t0
        have q3 := hg2.t1
        have q4 := hg2.p0
        have HG2 := Lib.hid hg2
        have HD2 := Lib.hid hd2
        have HA2 := Lib.hid a2
        have HB2 := Lib.hid (below_chg (below_al HB.out) h2 (fun i h => by omega))
        clear hg2 hd2 a2 h2 HB HC HG HD
        go_wp2_with (fail)
        refine (last_any _ c2 _ HA2.out HG2.out).mono ?_
        rintro e w3 ⟨rfl, a3, h3⟩
        go_wp2_with (fail)
        refine (time_any _ c2 _ a3 HG2.out).mono ?_
        rintro e w4 ⟨rfl, a4, h4⟩
        go_wp2_with (fail)
        refine (time_any _ c2 _ a4 HG2.out).mono ?_
        rintro e w5 ⟨rfl, a5, h5⟩
        have z5 := At.lt a5
        have HB5 := Lib.hid (below_chg (below_chg (below_chg HB2.out h3 (fun i h => by omega)) h4 (fun i h => by omega)) h5 (fun i h => by omega))
        have HC5 := Lib.hid (show ∃ c : Clk, Good c ∧ c.drift = drift ∧ ClkAt w5 w.heap.size c from ⟨c2, HG2.out, HD2.out, a5⟩)
        clear a3 a4 a5 h3 h4 h5 HA2 HB2 HD2 HG2
        go_wp2_with (fail)
        go_roundw
        case rel => exact ⟨k + 1, by omega, by go_num, z5, HC5, HB5⟩
        case measure => simp [intOf]; omega
      by_cases hk1 : kk = 1
      · subst hk1
        go_wp2_with (fail)
        refine (see_any _ c p l n _ (at_alloc HC.out) HG.out bp.1 bp.2 bl.1 bl.2 bn.1 bn.2).mono ?_
        rintro e w2 ⟨rfl, a2, h2⟩
        have hg2 : Good ((seeC c p l n).2) := good_see HG.out bp.1 bl.1 bl.2 bn.1
        have hd2 : ((seeC c p l n).2).drift = drift := (see_fix c p l n).2.1.trans HD.out
        generalize (seeC c p l n).2 = c2 at *
        have q1 := hg2.p1
        rw [hd2] at q1
        have q2 := hg2.t0
        have q3 := hg2.t1
        have q4 := hg2.p0
        have HG2 := Lib.hid hg2
        have HD2 := Lib.hid hd2
        have HA2 := Lib.hid a2
        have HB2 := Lib.hid (below_chg (below_al HB.out) h2 (fun i h => by omega))
        clear hg2 hd2 a2 h2 HB HC HG HD
        go_wp2_with (fail)
        refine (last_any _ c2 _ HA2.out HG2.out).mono ?_
        rintro e w3 ⟨rfl, a3, h3⟩
        go_wp2_with (fail)
        refine (time_any _ c2 _ a3 HG2.out).mono ?_
        rintro e w4 ⟨rfl, a4, h4⟩
        go_wp2_with (fail)
        refine (time_any _ c2 _ a4 HG2.out).mono ?_
        rintro e w5 ⟨rfl, a5, h5⟩
        have z5 := At.lt a5
        have HB5 := Lib.hid (below_chg (below_chg (below_chg HB2.out h3 (fun i h => by omega)) h4 (fun i h => by omega)) h5 (fun i h => by omega))
        have HC5 := Lib.hid (show ∃ c : Clk, Good c ∧ c.drift = drift ∧ ClkAt w5 w.heap.size c from ⟨c2, HG2.out, HD2.out, a5⟩)
        clear a3 a4 a5 h3 h4 h5 HA2 HB2 HD2 HG2
        go_wp2_with (fail)
        go_roundw
        case rel => exact ⟨k + 1, by omega, by go_num, z5, HC5, HB5⟩
        case measure => simp [intOf]; omega
      · have c0 : (kk == 0) = false := by simpa using hk0
        have c1 : (kk == 1) = false := by simpa using hk1
        clear hk0 hk1
        go_wp2_with (fail)
        refine (pass_any _ c mm _ (at_alloc HC.out) HG.out bm.2).mono ?_
        rintro e w2 ⟨rfl, a2, h2⟩
        have hg2 : Good (passC c mm) := good_pass HG.out mm
        have hd2 : (passC c mm).drift = drift := (pass_fix c mm).2.1.trans HD.out
        generalize passC c mm = c2 at *
        have q1 := hg2.p1
        rw [hd2] at q1
        have q2 := hg2.t0
        have q3 := hg2.t1
        have q4 := hg2.p0
        have HG2 := Lib.hid hg2
        have HD2 := Lib.hid hd2
        have HA2 := Lib.hid a2
        have HB2 := Lib.hid (below_chg (below_al HB.out) h2 (fun i h => by omega))
        clear hg2 hd2 a2 h2 HB HC HG HD
        go_wp2_with (fail)
        refine (last_any _ c2 _ HA2.out HG2.out).mono ?_
        rintro e w3 ⟨rfl, a3, h3⟩
        go_wp2_with (fail)
        refine (time_any _ c2 _ a3 HG2.out).mono ?_
        rintro e w4 ⟨rfl, a4, h4⟩
        go_wp2_with (fail)
        refine (time_any _ c2 _ a4 HG2.out).mono ?_
        rintro e w5 ⟨rfl, a5, h5⟩
        have z5 := At.lt a5
        have HB5 := Lib.hid (below_chg (below_chg (below_chg HB2.out h3 (fun i h => by omega)) h4 (fun i h => by omega)) h5 (fun i h => by omega))
        have HC5 := Lib.hid (show ∃ c : Clk, Good c ∧ c.drift = drift ∧ ClkAt w5 w.heap.size c from ⟨c2, HG2.out, HD2.out, a5⟩)
        clear a3 a4 a5 h3 h4 h5 HA2 HB2 HD2 HG2
        go_wp2_with (fail)
        go_roundw
        case rel => exact ⟨k + 1, by omega, by go_num, z5, HC5, HB5⟩
        case measure => simp [intOf]; omega
    · obtain rfl : k = m := by omega
      go_wp2_with (go_at_call 9; (with_reducible refine (fixed_any _).mono ?_); rintro e w9 ⟨rfl, hb9⟩)
      go_ret
      exact ⟨rfl, below_on HB.out hb9⟩

set_option maxHeartbeats 400000 in
theorem HlcBounded_bad (node time drift : Int) (a : Option Addr) (len cap : Nat) (w : World) (hm : ¬ mayC node time drift) :
    Calls Try.prog 6 #[.int .u8 node, .int .u64 time, .int .i64 drift, .slice a len cap] w fun e w' => e = .returned (.bool true) ∧ Below w.heap.size w w' := by
  have H1 := Lib.hid (progNew_bad node time drift false w hm)
  go_enter Try.func6, Try.ntmps6
  go_wp2_with (fail)
  refine H1.out.mono ?_
  rintro e w1 ⟨rfl, h1⟩
  go_wp2_with (go_at_call 9; (with_reducible refine (fixed_any _).mono ?_); rintro e w9 ⟨rfl, hb9⟩)
  go_ret
  exact ⟨rfl, below_on h1 hb9⟩
theorem HlcBounded_walk (node time drift : Int) (a : Option Addr) (len cap : Nat) (w : World) (n : 0 ≤ node ∧ node ≤ 255) (t : 0 ≤ time ∧ time ≤ 18446744073709551615) (ho : OpsAt w a len cap) :
    Calls Try.prog 6 #[.int .u8 node, .int .u64 time, .int .i64 drift, .slice a len cap] w fun e w' => e = .returned (.bool true) ∧ Below w.heap.size w w' := by
  by_cases hm : mayC node time drift
  · exact HlcBounded_ok node time drift a len cap w n.1 n.2 t.1 t.2 hm ho
  · exact HlcBounded_bad node time drift a len cap w hm
end Go.Proofs.Ytcidckcdfacplaa.Hlc

/- HlcLives answers true: the walk (own text). -/
import Derived.Test.YtcidckcdfacplaaHlcReads
namespace Go.Proofs.Ytcidckcdfacplaa.Hlc
open Go.RowKit Go.Proofs.Ytcidckcdfacplaa.Mem
set_option linter.unusedVariables false
set_option linter.unusedSimpArgs false

set_option maxRecDepth 100000 in
set_option maxHeartbeats 3200000 in
theorem HlcLives_ok (node time drift : Int) (a : Option Addr) (len cap : Nat) (a2 : Option Addr) (len2 cap2 : Nat) (w : World) (n0 : 0 ≤ node) (n1 : node ≤ 255) (t0 : 0 ≤ time) (t1 : time ≤ 18446744073709551615) (hm : mayC node time drift) (ho : OpsAt w a len cap) (ho2 : OpsAt w a2 len2 cap2) :
    Calls Try.prog 7 #[.int .u8 node, .int .u64 time, .int .i64 drift, .slice a len cap, .slice a2 len2 cap2] w fun e w' => e = .returned (.bool true) ∧ Below w.heap.size w w' := by
  have hg := good_new (rest := false) hm n0 t0
  obtain ⟨m1, m2, m3, m4⟩ := hm
  have hcl := cutL_le len
  have hcl3 : cutL len ≤ 300 := by unfold cutL; split <;> omega
  have hdl := cutL_le len2
  have hdl3 : cutL len2 ≤ 300 := by unfold cutL; split <;> omega
  generalize hL : cutL len = m at hcl hcl3
  generalize hL2 : cutL len2 = q at hdl hdl3
  have HL := Lib.hid hL
  have HL2 := Lib.hid hL2
  clear hL hL2
  have HO := Lib.hid ho
  have HO2 := Lib.hid ho2
  clear ho ho2
  go_enter Try.func7, Try.ntmps7
  go_wp2_with (fail)
  refine (progNew_ok node time drift false w n0 m1 t0 m2 m3 m4).mono ?_
  rintro e w1 ⟨rfl, a1, h1, z1⟩
  go_wp2_with (fail)
  have hcut := cut_any a len cap w1 HO.out.1 HO.out.2.1
  rw [HL.out] at hcut
  refine hcut.mono ?_
  rintro e w1' ⟨rfl, rfl⟩
  clear hcut
  go_wp2_with (fail)
  have HG := Lib.hid hg
  have HA := Lib.hid a1
  have HB := Lib.hid h1
  clear hg a1 h1
  go_loopw [34] (fun v w' => ∃ k : Nat, k ≤ m ∧ v = .int .i64 k ∧ w.heap.size < w'.heap.size ∧ Hid (∃ c : Clk, Good c ∧ c.drift = drift ∧ ClkAt w' w.heap.size c) ∧ Hid (Below w.heap.size w w')) (fun v _ => m - (intOf v).toNat)
  case atStart => exact ⟨0, by omega, rfl, z1, Lib.hid ⟨_, HG.out, rfl, HA.out⟩, HB⟩
  case round =>
    clear HA HB HG z1
    obtain ⟨k, hk, rfl, z1, HC, HB⟩ := hrel
    by_cases hlt : k < m
    · obtain ⟨b, off, kk, mm, p, l, n, rfl, hbw, e0, e1, e2, e3, e4, bk, bm, bp, bl, bn⟩ := ops_at HO.out (show k < len by omega)
      obtain ⟨c, hg, hd, hc⟩ := HC.out
      have hbc := fun i => HB.out.cell (p := ⟨b, i, none⟩) hbw
      rw [← hbc] at e0 e1 e2 e3 e4
      clear hbc HC
      have HC := Lib.hid hc
      have HG := Lib.hid hg
      have HD := Lib.hid hd
      clear hc hg hd
      by_cases hk0 : kk = 0
      · subst hk0
        go_wp2_with (fail)
        refine (now_any _ c _ (at_alloc HC.out) HG.out).mono ?_
        rintro e w2 ⟨rfl, a2, h2⟩
        have z2 := At.lt a2
        have HC2 := Lib.hid (show ∃ c : Clk, Good c ∧ c.drift = drift ∧ ClkAt w2 w.heap.size c from ⟨_, good_now HG.out, (now_fix c).2.1.trans HD.out, a2⟩)
        have HB2 := Lib.hid (below_chg (below_al HB.out) h2 (fun i h => by omega))
        clear a2 h2 HC HG HD HB
        go_wp2_with (fail)
        go_roundw
        case rel => exact ⟨k + 1, by omega, by go_num, z2, HC2, HB2⟩
        case measure => simp [intOf]; omega
      by_cases hk1 : kk = 1
      · subst hk1
        go_wp2_with (fail)
        refine (see_any _ c p l n _ (at_alloc HC.out) HG.out bp.1 bp.2 bl.1 bl.2 bn.1 bn.2).mono ?_
        rintro e w2 ⟨rfl, a2, h2⟩
        have z2 := At.lt a2
        have HC2 := Lib.hid (show ∃ c : Clk, Good c ∧ c.drift = drift ∧ ClkAt w2 w.heap.size c from ⟨_, good_see HG.out bp.1 bl.1 bl.2 bn.1, (see_fix c p l n).2.1.trans HD.out, a2⟩)
        have HB2 := Lib.hid (below_chg (below_al HB.out) h2 (fun i h => by omega))
        clear a2 h2 HC HG HD HB
        go_wp2_with (fail)
        go_roundw
        case rel => exact ⟨k + 1, by omega, by go_num, z2, HC2, HB2⟩
        case measure => simp [intOf]; omega
      · have c0 : (kk == 0) = false := by simpa using hk0
        have c1 : (kk == 1) = false := by simpa using hk1
        clear hk0 hk1
        go_wp2_with (fail)
        refine (pass_any _ c mm _ (at_alloc HC.out) HG.out bm.2).mono ?_
        rintro e w2 ⟨rfl, a2, h2⟩
        have z2 := At.lt a2
        have HC2 := Lib.hid (show ∃ c : Clk, Good c ∧ c.drift = drift ∧ ClkAt w2 w.heap.size c from ⟨_, good_pass HG.out mm, (pass_fix c mm).2.1.trans HD.out, a2⟩)
        have HB2 := Lib.hid (below_chg (below_al HB.out) h2 (fun i h => by omega))
        clear a2 h2 HC HG HD HB
        go_wp2_with (fail)
        go_roundw
        case rel => exact ⟨k + 1, by omega, by go_num, z2, HC2, HB2⟩
        case measure => simp [intOf]; omega
    · obtain rfl : k = m := by omega
      obtain ⟨c, hg, hd, hc⟩ := HC.out
      have r1 := hg.t0
      have r2 := hg.t1
      have r3 := hg.p1
      have HC1 := Lib.hid hc
      have HG := Lib.hid hg
      have HD := Lib.hid hd
      clear hc hg hd HC
      go_wp2_with (fail)
      refine (time_b _ c _ HC1.out).mono ?_
      rintro e w3 ⟨rfl, h3⟩
      go_wp2_with (fail)
      refine (progNew_ok node c.time drift true _ n0 m1 r1 r2 m3 m4).mono ?_
      rintro e w4 ⟨rfl, a4, h4, z4⟩
      go_wp2_with (fail)
      have hcut := cut_any a2 len2 cap2 w4 HO2.out.1 HO2.out.2.1
      rw [HL2.out] at hcut
      refine hcut.mono ?_
      rintro e w4' ⟨rfl, rfl⟩
      clear hcut
      have zc : w.heap.size < w3.heap.size := Nat.lt_of_lt_of_le z1 h3.size
      have HGD := Lib.hid (good_new (rest := true) (show mayC node c.time drift from ⟨m1, r2, m3, m4⟩) n0 r1)
      have HX := Lib.hid (at_below (at_below HC1.out h3) h4)
      have HB4 := Lib.hid (below_on (below_on HB.out h3) h4)
      have HA4 := Lib.hid a4
      clear a4 h3 h4 HC1 HB
      generalize w3.heap.size = x at *
      have HD4 := Lib.hid (show ∃ d : Clk, Good d ∧ d.rest = true ∧ d.start = c.time + drift ∧ ClkAt w4 x d from ⟨_, HGD.out, rfl, rfl, HA4.out⟩)
      have r4 : c.p ≤ c.time + drift := by have := HD.out; omega
      clear HGD HA4 HG HD z1 r1 r2 r3
      go_wp2_with (fail)
      go_loopw [72] (fun v w' => ∃ k : Nat, k ≤ q ∧ v = .int .i64 k ∧ x < w'.heap.size ∧ Hid (ClkAt w' w.heap.size c) ∧ Hid (∃ d : Clk, Good d ∧ d.rest = true ∧ d.start = c.time + drift ∧ ClkAt w' x d) ∧ Hid (Below w.heap.size w w')) (fun v _ => q - (intOf v).toNat)
      case atStart => exact ⟨0, by omega, rfl, z4, HX, HD4, HB4⟩
      case round =>
        clear HX HD4 HB4 z4
        obtain ⟨k2, hk2, rfl, z1, HX, HDD, HB⟩ := hrel
        by_cases hlt2 : k2 < q
        · obtain ⟨b, off, kk, mm, p, l, n, rfl, hbw, e0, e1, e2, e3, e4, bk, bm, bp, bl, bn⟩ := ops_at HO2.out (show k2 < len2 by omega)
          obtain ⟨d, hg, hdr, hds, hc⟩ := HDD.out
          have hbc := fun i => HB.out.cell (p := ⟨b, i, none⟩) hbw
          rw [← hbc] at e0 e1 e2 e3 e4
          clear hbc HDD
          have HC := Lib.hid hc
          have HG := Lib.hid hg
          have HR := Lib.hid hdr
          have HS := Lib.hid hds
          clear hc hg hdr hds
          by_cases hk0 : kk = 0
          · subst hk0
            obtain ⟨s1, s2, s3, er, d2, hnd⟩ : ∃ s1 s2 s3 er d2, nowC d = ((s1, s2, s3), er, d2) := ⟨_, _, _, _, _, rfl⟩
            have hn := fun W hc => now_any x d W hc HG.out
            have hgd := good_now HG.out
            have hfd := now_fix d
            have hlt3 := fun he => now_later HR.out (show (nowC d).2.1 = 0 from he) c.p c.l c.n (by rw [HS.out]; exact r4)
            rw [hnd] at hn hgd hfd hlt3
            simp only [] at hn hgd hfd hlt3
            have HN := Lib.hid hn
            have HGD := Lib.hid hgd
            have HFD := Lib.hid hfd
            by_cases he : er = 0
            · have h17 := fun W => less_any c.p c.l c.n s1 s2 s3 W
              rw [hlt3 he] at h17
              have H17 := Lib.hid h17
              subst he
              clear hn hgd hfd hlt3 h17 hnd
              go_wp2_with (fail)
              refine (HN.out _ (at_alloc HC.out)).mono ?_
              rintro e w2 ⟨rfl, a2, h2⟩
              have z2 := At.lt a2
              have HX2 := Lib.hid (at_chg (at_alloc HX.out) h2 (Nat.ne_of_lt zc))
              have HC2 := Lib.hid (show ∃ d : Clk, Good d ∧ d.rest = true ∧ d.start = c.time + drift ∧ ClkAt w2 x d from ⟨_, HGD.out, (HFD.out).2.2.2.1.trans HR.out, (HFD.out).2.2.1.trans HS.out, a2⟩)
              have HB2 := Lib.hid (below_chg (below_al HB.out) h2 (fun i h => by omega))
              have HC3 := Lib.hid a2
              have HFR := (HFD.out).2.2.2.1.trans HR.out
              have HFS := (HFD.out).2.2.1.trans HS.out
              clear a2 h2 HC HG HB HX HR HS

              have b2 := at_drew (at_new w2 #[.int .u64 s1, .int .u32 s2, .int .u8 s3] 25)
              have HBX := Lib.hid b2
              clear b2
              go_wp2_with (fail)
              go_region_held3 (fun W => W.cell? ⟨w2.heap.size, 0, none⟩ = some (.int .u64 s1) ∧ W.cell? ⟨w2.heap.size, 1, none⟩ = some (.int .u32 s2) ∧ W.cell? ⟨w2.heap.size, 2, none⟩ = some (.int .u8 s3)) (first | exact c3_start HBX.out | exact c3_next (by assumption) hb1) (first | (go_at_call 15; (with_reducible refine (last_b _ c _ ?hcl).mono ?_); (case hcl => exact at_drew (at_alloc HX2.out)); rintro e w3 ⟨rfl, hb1⟩) | (go_at_call 17; (with_reducible refine (H17.out _).mono ?_); rintro e w3 ⟨rfl, hb1⟩))
              go_wp2_with (fail)
              go_roundw
              case rel =>
                have hX2 : At _ w.heap.size (clkA c) 60 := HX2.out
                have hC3 : At _ x (clkA d2) 60 := HC3.out
                refine ⟨k2 + 1, by omega, by go_num, ?_, ?_, ?_, ?_⟩
                · refine At.lt (b := x) (cs := clkA d2) (t := 60) ?_
                  (repeat (first | (with_reducible exact hX2) | (with_reducible exact hC3) | (with_reducible apply at_drewN) | (with_reducible apply at_drew) | (with_reducible apply at_alloc) | (with_reducible apply at_below (k := by assumption))))
                · refine Lib.hid (show At _ _ (clkA c) _ from ?_)
                  (repeat (first | (with_reducible exact hX2) | (with_reducible exact hC3) | (with_reducible apply at_drewN) | (with_reducible apply at_drew) | (with_reducible apply at_alloc) | (with_reducible apply at_below (k := by assumption))))
                · refine Lib.hid ⟨d2, HGD.out, HFR, HFS, (show At _ _ (clkA d2) _ from ?_)⟩
                  (repeat (first | (with_reducible exact hX2) | (with_reducible exact hC3) | (with_reducible apply at_drewN) | (with_reducible apply at_drew) | (with_reducible apply at_alloc) | (with_reducible apply at_below (k := by assumption))))
                · refine Lib.hid ?_
                  (repeat (first | (with_reducible exact HB2.out) | (with_reducible apply below_dn) | (with_reducible apply Below.drew) | (with_reducible apply below_al) | (with_reducible refine below_on ?_ (by assumption))))
              case measure => simp [intOf]; omega
            · have c1 : (er == 0) = false := by simpa using he
              clear hn hgd hfd hlt3 hnd he
              go_wp2_with (fail)
              refine (HN.out _ (at_alloc HC.out)).mono ?_
              rintro e w2 ⟨rfl, a2, h2⟩
              have z2 := At.lt a2
              have HX2 := Lib.hid (at_chg (at_alloc HX.out) h2 (Nat.ne_of_lt zc))
              have HC2 := Lib.hid (show ∃ d : Clk, Good d ∧ d.rest = true ∧ d.start = c.time + drift ∧ ClkAt w2 x d from ⟨_, HGD.out, (HFD.out).2.2.2.1.trans HR.out, (HFD.out).2.2.1.trans HS.out, a2⟩)
              have HB2 := Lib.hid (below_chg (below_al HB.out) h2 (fun i h => by omega))
              have HC3 := Lib.hid a2
              have HFR := (HFD.out).2.2.2.1.trans HR.out
              have HFS := (HFD.out).2.2.1.trans HS.out
              clear a2 h2 HC HG HB HX HR HS

              go_wp2_with (fail)
              go_quiet (fail)
              go_wp2_with (fail)
              go_roundw
              case rel =>
                have hX2 : At _ w.heap.size (clkA c) 60 := HX2.out
                have hC3 : At _ x (clkA d2) 60 := HC3.out
                refine ⟨k2 + 1, by omega, by go_num, ?_, ?_, ?_, ?_⟩
                · refine At.lt (b := x) (cs := clkA d2) (t := 60) ?_
                  (repeat (first | (with_reducible exact hX2) | (with_reducible exact hC3) | (with_reducible apply at_drewN) | (with_reducible apply at_drew) | (with_reducible apply at_alloc) | (with_reducible apply at_below (k := by assumption))))
                · refine Lib.hid (show At _ _ (clkA c) _ from ?_)
                  (repeat (first | (with_reducible exact hX2) | (with_reducible exact hC3) | (with_reducible apply at_drewN) | (with_reducible apply at_drew) | (with_reducible apply at_alloc) | (with_reducible apply at_below (k := by assumption))))
                · refine Lib.hid ⟨d2, HGD.out, HFR, HFS, (show At _ _ (clkA d2) _ from ?_)⟩
                  (repeat (first | (with_reducible exact hX2) | (with_reducible exact hC3) | (with_reducible apply at_drewN) | (with_reducible apply at_drew) | (with_reducible apply at_alloc) | (with_reducible apply at_below (k := by assumption))))
                · refine Lib.hid ?_
                  (repeat (first | (with_reducible exact HB2.out) | (with_reducible apply below_dn) | (with_reducible apply Below.drew) | (with_reducible apply below_al) | (with_reducible refine below_on ?_ (by assumption))))
              case measure => simp [intOf]; omega
          by_cases hk1 : kk = 1
          · subst hk1
            go_wp2_with (fail)
            refine (see_any x d p l n _ (at_alloc HC.out) HG.out bp.1 bp.2 bl.1 bl.2 bn.1 bn.2).mono ?_
            rintro e w2 ⟨rfl, a2, h2⟩
            have z2 := At.lt a2
            have HX2 := Lib.hid (at_chg (at_alloc HX.out) h2 (Nat.ne_of_lt zc))
            have HC2 := Lib.hid (show ∃ d : Clk, Good d ∧ d.rest = true ∧ d.start = c.time + drift ∧ ClkAt w2 x d from ⟨_, good_see HG.out bp.1 bl.1 bl.2 bn.1, (see_fix d p l n).2.2.2.1.trans HR.out, (see_fix d p l n).2.2.1.trans HS.out, a2⟩)
            have HB2 := Lib.hid (below_chg (below_al HB.out) h2 (fun i h => by omega))
            clear a2 h2 HC HG HB HX HR HS
            go_wp2_with (fail)
            go_roundw
            case rel => exact ⟨k2 + 1, by omega, by go_num, z2, HX2, HC2, HB2⟩
            case measure => simp [intOf]; omega
          · have c0 : (kk == 0) = false := by simpa using hk0
            have c1 : (kk == 1) = false := by simpa using hk1
            clear hk0 hk1
            go_wp2_with (fail)
            refine (pass_any x d mm _ (at_alloc HC.out) HG.out bm.2).mono ?_
            rintro e w2 ⟨rfl, a2, h2⟩
            have z2 := At.lt a2
            have HX2 := Lib.hid (at_chg (at_alloc HX.out) h2 (Nat.ne_of_lt zc))
            have HC2 := Lib.hid (show ∃ d : Clk, Good d ∧ d.rest = true ∧ d.start = c.time + drift ∧ ClkAt w2 x d from ⟨_, good_pass HG.out mm, (pass_fix d mm).2.2.2.1.trans HR.out, (pass_fix d mm).2.2.1.trans HS.out, a2⟩)
            have HB2 := Lib.hid (below_chg (below_al HB.out) h2 (fun i h => by omega))
            clear a2 h2 HC HG HB HX HR HS
            go_wp2_with (fail)
            go_roundw
            case rel => exact ⟨k2 + 1, by omega, by go_num, z2, HX2, HC2, HB2⟩
            case measure => simp [intOf]; omega
        · obtain rfl : k2 = q := by omega
          go_wp2_with (go_at_call 9; (with_reducible refine (fixed_any _).mono ?_); rintro e w9 ⟨rfl, hb9⟩)
          go_ret
          exact ⟨rfl, below_on HB.out hb9⟩

set_option maxHeartbeats 400000 in
theorem HlcLives_bad (node time drift : Int) (a : Option Addr) (len cap : Nat) (a2 : Option Addr) (len2 cap2 : Nat) (w : World) (hm : ¬ mayC node time drift) :
    Calls Try.prog 7 #[.int .u8 node, .int .u64 time, .int .i64 drift, .slice a len cap, .slice a2 len2 cap2] w fun e w' => e = .returned (.bool true) ∧ Below w.heap.size w w' := by
  have H1 := Lib.hid (progNew_bad node time drift false w hm)
  go_enter Try.func7, Try.ntmps7
  go_wp2_with (fail)
  refine H1.out.mono ?_
  rintro e w1 ⟨rfl, h1⟩
  go_wp2_with (go_at_call 9; (with_reducible refine (fixed_any _).mono ?_); rintro e w9 ⟨rfl, hb9⟩)
  go_ret
  exact ⟨rfl, below_on h1 hb9⟩

theorem HlcLives_walk (node time drift : Int) (a : Option Addr) (len cap : Nat) (a2 : Option Addr) (len2 cap2 : Nat) (w : World) (n : 0 ≤ node ∧ node ≤ 255) (t : 0 ≤ time ∧ time ≤ 18446744073709551615) (ho : OpsAt w a len cap) (ho2 : OpsAt w a2 len2 cap2) :
    Calls Try.prog 7 #[.int .u8 node, .int .u64 time, .int .i64 drift, .slice a len cap, .slice a2 len2 cap2] w fun e w' => e = .returned (.bool true) ∧ Below w.heap.size w w' := by
  by_cases hm : mayC node time drift
  · exact HlcLives_ok node time drift a len cap a2 len2 cap2 w n.1 n.2 t.1 t.2 hm ho ho2
  · exact HlcLives_bad node time drift a len cap a2 len2 cap2 w hm
end Go.Proofs.Ytcidckcdfacplaa.Hlc

/- Behind of a request (own text). -/
import Derived.Test.YtnbcbokdbenbiaaAskBest
namespace Go.Proofs.Ytnbcbokdbenbiaa.Ask
open Go.RowKit Go.Proofs.Ytnbcbokdbenbiaa.Mem Go.Lib Go.Proofs.YtnbcbokdbenbiaaW.PrintWords
set_option linter.unusedVariables false
set_option linter.unusedSimpArgs false
def less (r : Rep) (x : An) : Bool := x.come && (!x.r.has || decide (cmpA x.r r < 0))
def behL (r : Rep) (l : List An) : List Int := (l.filter (less r)).map An.node
def behF (l : List An) : List Int := if yesN l = 0 then [] else behL (bestF l).r l
theorem beh_step (r : Rep) (l : List An) (k : Nat) (hk : k < l.length) : behL r (l.take (k + 1)) = if less r l[k] = true then behL r (l.take k) ++ [l[k].node] else behL r (l.take k) := by
  unfold behL
  rw [List.take_succ_eq_append_getElem hk, List.filter_append]
  by_cases h : less r l[k] = true
  · rw [if_pos h]; simp [h]
  · rw [if_neg h]; simp [h]
theorem infoU8 : (Try.prog.info? 5).map (fun i => (i.zero, i.size, i.bytes)) = some (some (.int .u8 0), 1, 1) := by kernel_rfl
set_option maxHeartbeats 1600000 in
theorem behind_no (p : Option Addr) (w : World) (hb : Calls Try.prog 10 #[.pointer p] w fun e w' => e = .returned (bestV bs0) ∧ Below w.heap.size w w') :
    Calls Try.prog 13 #[.pointer p] w fun e w' => e = .returned (.slice none 0 0) ∧ Below w.heap.size w w' := by
  unfold bestV bs0 rep0 recA at hb
  simp only at hb
  go_enter Try.func13, Try.ntmps13
  go_wp2_with (go_at_call 10; (with_reducible refine (hb).mono ?_); rintro e w1 ⟨rfl, hb1⟩)
  go_ret
  exact ⟨rfl, below_al hb1⟩
set_option maxRecDepth 100000 in
set_option maxHeartbeats 8000000 in
theorem behind_row (b g cap : Nat) (u : Int) (l : List An) (w : World) (ha : At w b #[.slice (some ⟨g, 0, none⟩) l.length cap, .int .u64 u] 51) (hr : Row w g (.slice (some ⟨g, 0, none⟩) l.length cap) l) (hg : g < w.heap.size) (hl : l.length ≤ 100) (r : Rep) (live : Bool)
    (hy : Calls Try.prog 10 #[.pointer (some ⟨b, 0, none⟩)] w fun e w2 => e = .returned (bestV ⟨r, live, true⟩) ∧ Below w.heap.size w w2) :
    Calls Try.prog 13 #[.pointer (some ⟨b, 0, none⟩)] w fun e w' => ∃ v, e = .returned v ∧ (Kd.int .u8).R 5 w' w.heap.size (fun _ => True) v (behL r l) ∧ Below w.heap.size w w' := by
  have HR := Lib.hid hr
  have HA := Lib.hid ha
  have HS := Lib.hid (fun k => beh_step r l k)
  have HE := Lib.hid (show behL r (l.take l.length) = behL r l from by rw [List.take_length])
  clear hr ha
  obtain ⟨n, hn⟩ : ∃ n, n = l.length := ⟨_, rfl⟩
  rw [← hn] at hl HE
  have HN := Lib.hid hn
  clear hn
  obtain ⟨bhas, bpast, bkey, bp, bl, bn, bkd, bfl, bex, bbd⟩ := r
  unfold bestV recA at hy
  simp only at hy
  have HY := Lib.hid hy
  clear hy
  go_enter Try.func13, Try.ntmps13
  go_upto_region 3 with (go_at_call 10; (with_reducible refine (HY.out).mono ?_); rintro e w1 ⟨rfl, hb1⟩)
  have hB2 := below_al (o := .cells #[.string bkey, .int .u64 bp, .int .u32 bl, .int .u8 bn, .int .u8 bkd, .int .u32 bfl, .int .u64 bex, .string bbd] 32) hb1
  have A1 := at_new w1 #[.string bkey, .int .u64 bp, .int .u32 bl, .int .u8 bn, .int .u8 bkd, .int .u32 bfl, .int .u64 bex, .string bbd] 32
  have c0 := (at_below HA.out hB2).cell 0
  rw [← HN.out] at c0
  have hy1 := hb1.size
  clear hb1
  generalize w1.alloc (.cells #[.string bkey, .int .u64 bp, .int .u32 bl, .int .u8 bn, .int .u8 bkd, .int .u32 bfl, .int .u64 bex, .string bbd] 32) = w2 at *
  generalize w1.heap.size = y1 at *
  go_wp2_with (fail)
  go_loopw [3, 23] (fun v3 v23 w' => ∃ (k : Nat) (acc : List Int) (v : Value), k ≤ n ∧ v23 = .int .i64 k ∧ v = v3 ∧ Hid (acc = behL ⟨bhas, bpast, bkey, bp, bl, bn, bkd, bfl, bex, bbd⟩ (l.take k)) ∧ Hid (acc.length ≤ k) ∧ Hid ((Kd.int .u8).R 5 w' w.heap.size (fun _ => True) v acc) ∧ Hid (At w' y1 #[.string bkey, .int .u64 bp, .int .u32 bl, .int .u8 bn, .int .u8 bkd, .int .u32 bfl, .int .u64 bex, .string bbd] 32) ∧ Hid (Below w.heap.size w w')) (fun _ i _ => n - (intOf i).toNat)
  case atStart => exact ⟨0, [], .slice none 0 0, by omega, rfl, rfl, Lib.hid rfl, Lib.hid (Nat.le_refl _), Lib.hid (Kd.R_nil _ _ _ _ _), Lib.hid A1, Lib.hid hB2⟩
  case round =>
    clear A1 hB2
    obtain ⟨k, acc, v, hk, rfl, rfl, HK, HL, HV, HT, HB⟩ := hrel
    by_cases hlt : k < n
    · obtain ⟨e0, e1, e2, e3, e4, e5, e6, e7, e8, e9, e10, e11⟩ := row_at (row_below HR.out HB.out) k (by rw [← HN.out]; exact hlt)
      have hgw : g < wr.heap.size := Nat.lt_of_lt_of_le hg HB.out.size
      have hs := HS.out k (by rw [← HN.out]; exact hlt)
      rw [← HK.out] at hs
      generalize l[k] = x at e0 e1 e2 e3 e4 e5 e6 e7 e8 e9 e10 e11 hs
      obtain ⟨node, come, has, past, key, p, la, no, kd, fl, ex, bd⟩ := x
      simp only at e0 e1 e2 e3 e4 e5 e6 e7 e8 e9 e10 e11
      unfold less cmpA at hs
      simp only at hs
      have HS2 := Lib.hid hs
      clear hs
      go_upto_region 8 with (fail)
      replace HB := Lib.hid (below_al (o := .cells #[.int .u8 node, .bool come, .bool has, .bool past, .string key, .int .u64 p, .int .u32 la, .int .u8 no, .int .u8 kd, .int .u32 fl, .int .u64 ex, .string bd] 54) HB.out)
      have HX := Lib.hid (at_new wr #[.int .u8 node, .bool come, .bool has, .bool past, .string key, .int .u64 p, .int .u32 la, .int .u8 no, .int .u8 kd, .int .u32 fl, .int .u64 ex, .string bd] 54)
      replace HT := Lib.hid (at_alloc (o := .cells #[.int .u8 node, .bool come, .bool has, .bool past, .string key, .int .u64 p, .int .u32 la, .int .u8 no, .int .u8 kd, .int .u32 fl, .int .u64 ex, .string bd] 54) HT.out)
      replace HV := Lib.hid (Kd.R_alloc HV.out (.cells #[.int .u8 node, .bool come, .bool has, .bool past, .string key, .int .u64 p, .int .u32 la, .int .u8 no, .int .u8 kd, .int .u32 fl, .int .u64 ex, .string bd] 54))
      clear e0 e1 e2 e3 e4 e5 e6 e7 e8 e9 e10 e11
      generalize wr.alloc (.cells #[.int .u8 node, .bool come, .bool has, .bool past, .string key, .int .u64 p, .int .u32 la, .int .u8 no, .int .u8 kd, .int .u32 fl, .int .u64 ex, .string bd] 54) = w3 at *
      generalize wr.heap.size = y at *
      have x0 := HX.out.cell 0
      have x1 := HX.out.cell 1
      have x2 := HX.out.cell 2
      have x4 := HX.out.cell 4
      have x5 := HX.out.cell 5
      have x6 := HX.out.cell 6
      have x7 := HX.out.cell 7
      have x8 := HX.out.cell 8
      have x9 := HX.out.cell 9
      have x10 := HX.out.cell 10
      have x11 := HX.out.cell 11
      obtain ⟨t0, t1, t2, t3, t4, t5, t6, t7, -⟩ := at8 HT.out
      have CC := Lib.hid (fun w => Rec.rcompare_any key p la no kd fl ex bd bkey bp bl bn bkd bfl bex bbd w)
      generalize Rec.cmpR p la no kd fl ex bd bp bl bn bkd bfl bex bbd = c at CC HS2
      cases come with
      | false =>
        have hs2 := Lib.hid (show acc = behL ⟨bhas, bpast, bkey, bp, bl, bn, bkd, bfl, bex, bbd⟩ (l.take (k + 1)) from by rw [HS2.out]; rfl)
        clear x0 x2 x4 x5 x6 x7 x8 x9 x10 x11 t0 t1 t2 t3 t4 t5 t6 t7
        go_wp2_with (fail)
        exact ⟨⟨k + 1, acc, v, by omega, by go_num, rfl, hs2, Lib.hid (by have := HL.out; omega), HV, HT, HB⟩, by simp [intOf]; omega⟩
      | true =>
        cases has with
        | false =>
          have hs2 := Lib.hid (show acc ++ [node] = behL ⟨bhas, bpast, bkey, bp, bl, bn, bkd, bfl, bex, bbd⟩ (l.take (k + 1)) from by rw [HS2.out]; simp)
          clear x4 x5 x6 x7 x8 x9 x10 x11 t0 t1 t2 t3 t4 t5 t6 t7
          go_wp2_with (first
            | ((with_reducible refine gate_dst (N := 47) rfl ?_); refine Kd.R_append (Kd.int .u8) (w0 := w) w.heap.size (by rfl) (.tmp 43) (.tmp 46) 22 5 (.int .u8 0) 1 rfl Try.underlying22 infoU8 rfl (by decide) (by omega) v acc node [.int .u8 node] (fun _ => True) (fun _ => False) rfl rfl ?aP (fun _ hk => hk.elim) ?aF ?aO ?aB ?aS ?aL ?_; (case aP => exact rfl); (case aF => exact (fun _ _ => trivial)); (case aO => exact HV.out); (case aB => exact HB.out); (case aS => exact HB.out.size); (case aL => have := HL.out; omega); intro v1 w4 ho hb4 hg4 hat; have HT4 := Lib.hid (show At w4 y1 #[.string bkey, .int .u64 bp, .int .u32 bl, .int .u8 bn, .int .u8 bkd, .int .u32 bfl, .int .u64 bex, .string bbd] 32 from (hg4.block _ HT.out.lt (Kd.R_ne HV.out HT.out (by decide))).trans HT.out); have HV4 := Lib.hid ho; have HB4 := Lib.hid hb4; clear ho hb4 hg4 hat HV HB HT HX x0))
          exact ⟨⟨k + 1, acc ++ [node], v1, by omega, by go_num, rfl, hs2, Lib.hid (by have := HL.out; rw [List.length_append]; simp; omega), HV4, HT4, HB4⟩, by simp [intOf]; omega⟩
        | true =>
          cases hc : decide (c < 0) with
          | true =>
            have hs2 := Lib.hid (show acc ++ [node] = behL ⟨bhas, bpast, bkey, bp, bl, bn, bkd, bfl, bex, bbd⟩ (l.take (k + 1)) from by rw [HS2.out]; simp [of_decide_eq_true hc])
            go_upto_region 9 with (go_at_call 17; (with_reducible refine (CC.out _).mono ?_); rintro e w5 ⟨rfl, hb5⟩)
            replace HB := Lib.hid (below_on HB.out hb5)
            replace HX := Lib.hid (at_below HX.out hb5)
            replace HT := Lib.hid (at_below HT.out hb5)
            replace HV := Lib.hid (Kd.R_below HV.out hb5)
            clear hb5 x0 x1 x2 x4 x5 x6 x7 x8 x9 x10 x11 t0 t1 t2 t3 t4 t5 t6 t7
            have x0 := HX.out.cell 0
            go_wp2_with (first
              | ((with_reducible refine gate_dst (N := 47) rfl ?_); refine Kd.R_append (Kd.int .u8) (w0 := w) w.heap.size (by rfl) (.tmp 43) (.tmp 46) 22 5 (.int .u8 0) 1 rfl Try.underlying22 infoU8 rfl (by decide) (by omega) v acc node [.int .u8 node] (fun _ => True) (fun _ => False) rfl rfl ?aP (fun _ hk => hk.elim) ?aF ?aO ?aB ?aS ?aL ?_; (case aP => exact rfl); (case aF => exact (fun _ _ => trivial)); (case aO => exact HV.out); (case aB => exact HB.out); (case aS => exact HB.out.size); (case aL => have := HL.out; omega); intro v1 w4 ho hb4 hg4 hat; have HT4 := Lib.hid (show At w4 y1 #[.string bkey, .int .u64 bp, .int .u32 bl, .int .u8 bn, .int .u8 bkd, .int .u32 bfl, .int .u64 bex, .string bbd] 32 from (hg4.block _ HT.out.lt (Kd.R_ne HV.out HT.out (by decide))).trans HT.out); have HV4 := Lib.hid ho; have HB4 := Lib.hid hb4; clear ho hb4 hg4 hat HV HB HT HX x0))
            exact ⟨⟨k + 1, acc ++ [node], v1, by omega, by go_num, rfl, hs2, Lib.hid (by have := HL.out; rw [List.length_append]; simp; omega), HV4, HT4, HB4⟩, by simp [intOf]; omega⟩
          | false =>
            have hs2 := Lib.hid (show acc = behL ⟨bhas, bpast, bkey, bp, bl, bn, bkd, bfl, bex, bbd⟩ (l.take (k + 1)) from by rw [HS2.out]; simp [of_decide_eq_false hc]; done)
            go_wp2_with (go_at_call 17; (with_reducible refine (CC.out _).mono ?_); rintro e w5 ⟨rfl, hb5⟩)
            exact ⟨⟨k + 1, acc, v, by omega, by go_num, rfl, hs2, Lib.hid (by have := HL.out; omega), Lib.hid (Kd.R_below HV.out hb5), Lib.hid (at_below HT.out hb5), Lib.hid (below_on HB.out hb5)⟩, by simp [intOf]; omega⟩
    · obtain rfl : k = n := by omega
      have hr : acc = behL _ l := HK.out.trans HE.out
      have HR2 := Lib.hid hr
      clear hr hlt
      go_wp2_with (fail)
      go_ret
      exact ⟨_, rfl, HR2.out ▸ HV.out, HB.out⟩
theorem behind_none (w : World) : Calls Try.prog 13 #[.pointer none] w fun e w' => e = .returned (.slice none 0 0) ∧ Below w.heap.size w w' :=
  behind_no none w (best_none w)
theorem behind_any (b g : Nat) (u : Int) (l : List An) (w : World) (h : Req w b g u l) : Calls Try.prog 13 #[.pointer (some ⟨b, 0, none⟩)] w fun e w' => ∃ v, e = .returned v ∧ (Kd.int .u8).R 5 w' w.heap.size (fun _ => True) v (behF l) ∧ Below w.heap.size w w' := by
  have hq := best_any b g u l w h
  unfold behF
  by_cases h0 : yesN l = 0
  · rw [if_pos h0]
    rw [best_no l h0] at hq
    refine (behind_no _ w hq).mono ?_
    rintro e w' ⟨rfl, hb⟩
    exact ⟨_, rfl, Kd.R_nil _ _ _ _ _, hb⟩
  · rw [if_neg h0]
    have ht := best_there l (by omega)
    obtain ⟨v, ha, hr, hbg, hl⟩ := h
    have h2 := hr
    rcases hr with ⟨rfl, rfl⟩ | ⟨cap, rest, rfl, h1, hc, hx⟩
    · exact absurd rfl h0
    · refine behind_row b g cap u l w ha h2 hx.lt hl (bestF l).r (bestF l).live ?_
      generalize bestF l = s at hq ht
      obtain ⟨r, lv, th⟩ := s
      simp only at ht
      subst ht
      exact hq
end Go.Proofs.Ytnbcbokdbenbiaa.Ask

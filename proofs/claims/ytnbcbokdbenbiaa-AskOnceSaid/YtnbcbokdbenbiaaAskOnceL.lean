/- AskOnce answers true: the walk (own text; written by wip/tools/gen_askonce.py). -/
import Derived.Test.YtnbcbokdbenbiaaAskEnd
namespace Go.Proofs.Ytnbcbokdbenbiaa.Ask
open Go.RowKit Go.Proofs.Ytnbcbokdbenbiaa.Mem Go.Lib Go.Proofs.YtnbcbokdbenbiaaW.PrintWords Go.Proofs.YtnbcbokdbenbiaaW.PrintLast Go.Proofs.YtnbcbokdbenbiaaW.PrintMore
set_option linter.unusedVariables false
set_option linter.unusedSimpArgs false
set_option maxRecDepth 100000 in
set_option maxHeartbeats 16000000 in
theorem once_row (ns : List Int) (A : Option Addr) (cap : Nat) (A1 : Option Addr) (n1 c1 : Nat) (A2 : Option Addr) (n2 c2 : Nat) (nk : ByteArray) (w : World) (hl : ns.length ≤ 100) (hnn : Nodes w A ns) (hr : ∀ n ∈ ns, 0 ≤ n ∧ n ≤ 255) (hk : nk.size ≤ 1000)
    (h1 : OpsIn w A1 n1) (h2 : OpsIn w A2 n2) (hn1 : n1 ≤ 9223372036854775807) (hn2 : n2 ≤ 9223372036854775807) :
    Calls Try.prog 4 #[.slice A ns.length cap, .slice A1 n1 c1, .slice A2 n2 c2, .string nk] w fun e w' => e = .returned (.bool true) ∧ Below w.heap.size w w' := by
  have HN := Lib.hid (fun W (hW : Below w.heap.size w W) => new_any ns A cap 9 W hl (nodes_below hnn hW))
  have HND := Lib.hid hnn
  have HR := Lib.hid hr
  have CU1 := Lib.hid (fun W (hW : Below w.heap.size w W) => cut_any A1 n1 c1 nk W hn1 (opsIn_below h1 hW))
  have CU2 := Lib.hid (fun W (hW : Below w.heap.size w W) => cut_any A2 n2 c2 nk W hn2 (opsIn_below h2 hW))
  have k1 : decide ((1000 : Int) < (nk.size : Int)) = false := decide_eq_false (by omega)
  clear hnn hr h1 h2 hn1 hn2
  have hmm := @run_makeMap Try.prog
  obtain ⟨m, hm⟩ : ∃ m, m = ns.length := ⟨_, rfl⟩
  rw [← hm] at hl HN ⊢
  have HM := Lib.hid hm
  have hlm : decide ((100 : Int) < (m : Int)) = false := decide_eq_false (by omega)
  clear hm hk
  go_enter Try.func4, Try.ntmps4
  go_wp2_with (fail)
  refine (HN.out w (Below.refl _ _)).mono ?_
  rintro e w1 ⟨g1, rfl, hq1, hbg1, hg1, hb1⟩
  go_wp2_with (fail)
  refine (HN.out w1 hb1).mono ?_
  rintro e w2 ⟨g2, rfl, hq2, hbg2, hg2, hb2⟩
  have hb1w := req_lt hq1
  have HP1 := Lib.hid (req_below hq1 hb2)
  have HQ1 := Lib.hid hq2
  have HB1 := Lib.hid (below_on hb1 hb2)
  have hb2w := req_lt hq2
  clear hq1 hq2 hb1 hb2 HN
  obtain ⟨b2, hbb2⟩ : ∃ b, b = w1.heap.size := ⟨_, rfl⟩
  rw [← hbb2] at HQ1 hbg2 hg1 hb1w hb2w ⊢
  clear hbb2
  go_upto_region 9 with (fail)
  have HF1 := Lib.hid (set_below (set_made w2) (below_al (o := .map #[] 0) (Below.refl _ _)))
  have HA1 := Lib.hid (set_made (w2.alloc (.map #[] 0)))
  have hs0 : (w2.alloc (.map #[] 0)).heap.size = w2.heap.size + 1 := World.size_alloc _ _
  have HP2 := Lib.hid (req_below (req_below HP1.out (below_al (o := .map #[] 0) (Below.refl _ _))) (below_al (o := .map #[] 0) (Below.refl _ _)))
  have HQ2 := Lib.hid (req_below (req_below HQ1.out (below_al (o := .map #[] 0) (Below.refl _ _))) (below_al (o := .map #[] 0) (Below.refl _ _)))
  rw [hs0] at HA1
  have HB2 := Lib.hid (below_al (o := .map #[] 0) (below_al (o := .map #[] 0) HB1.out))
  have hs1 : ((w2.alloc (.map #[] 0)).alloc (.map #[] 0)).heap.size = w2.heap.size + 2 := by rw [World.size_alloc, hs0]
  clear HP1 HQ1 HB1 hs0 hmm
  generalize (w2.alloc (.map #[] 0)).alloc (.map #[] 0) = w3 at *
  generalize w2.heap.size = fb at *
  have HN1 := Lib.hid (show Req w3 w.heap.size g1 9 (after ns []) from by rw [after_nil]; exact HP2.out)
  have HN2 := Lib.hid (show Req w3 b2 g2 9 (after ns []) from by rw [after_nil]; exact HQ2.out)
  clear HP2 HQ2
  go_loopw [52] (fun v52 w' => ∃ k : Nat, k ≤ m ∧ v52 = .int .i64 k ∧ Hid (SetAt w' (fb + 1) k (fun j => (ns.take k).contains j)) ∧ Hid (SetAt w' fb 0 (sm [])) ∧ Hid (Req w' w.heap.size g1 9 (after ns [])) ∧ Hid (Req w' b2 g2 9 (after ns [])) ∧ Hid (Below w.heap.size w w')) (fun i _ => m - (intOf i).toNat)
  case atStart => exact ⟨0, by omega, rfl, Lib.hid (set_iff HA1.out (fun j => by simp)), HF1, HN1, HN2, HB2⟩
  case round =>
    clear HA1 HF1 HN1 HN2 HB2
    obtain ⟨k, hk, rfl, HA, HF, HP, HQ, HB⟩ := hrel
    by_cases hlt : k < m
    · have hkn : k < ns.length := by rw [← HM.out]; exact hlt
      obtain ⟨nb, off, rfl, hnb, hcell⟩ := HND.out (by omega)
      have e0 := hcell k hkn
      clear hcell
      have hcs := contains_snoc ns k hkn
      obtain ⟨n0, n1⟩ := HR.out ns[k] (List.getElem_mem _)
      have hnw : nb < wr.heap.size := Nat.lt_of_lt_of_le hnb HB.out.size
      rw [← HB.out.cell (p := ⟨nb, off + k, none⟩) hnb] at e0
      generalize ns[k] = n at e0 hcs n0 n1
      have HCS := Lib.hid hcs
      clear hcs
      go_wp2_with (at_mapUpdate; refine wp_set_put _ rfl _ _ _ rfl (fb + 1) k _ rfl HA.out (by omega) n n0 n1 rfl rfl ?_; intro w4 hs4 hk4)
      exact ⟨⟨k + 1, by omega, by go_num, Lib.hid (set_iff hs4 HCS.out), Lib.hid (set_chg HF.out hk4 (by omega)), Lib.hid (req_chg HP.out hk4 (by omega) (by omega)), Lib.hid (req_chg HQ.out hk4 (by omega) (by omega)), Lib.hid (below_chg' HB.out hk4 (by omega))⟩, by simp [intOf]; omega⟩
    · obtain rfl : k = m := by omega
      clear hlt hk
      go_wp2_with (fail)
      refine (CU1.out wr HB.out).mono ?_
      rintro e w4 ⟨v, gx, os, rfl, hro, hgx, hol, hor, hb4⟩
      obtain ⟨AX, cx, rfl, hcx, hAX⟩ := rowO_val hro
      have hfw := set_lt HF.out
      have haw := set_lt HA.out
      have HA0 := Lib.hid (set_iff (S' := fun j => ns.contains j) (set_below HA.out hb4) (fun j => by show (ns.take k).contains j = ns.contains j; rw [HM.out, List.take_length]))
      have HF0 := Lib.hid (set_below HF.out hb4)
      have HP0 := Lib.hid (req_below HP.out hb4)
      have HQ0 := Lib.hid (req_below HQ.out hb4)
      have HB0 := Lib.hid (below_on HB.out hb4)
      have HO0 := Lib.hid hro
      have HOR := Lib.hid hor
      have hgxb : fb + 1 < gx := by omega
      clear HA HF HP HQ HB hro hor hb4 hfw haw hgx
      obtain ⟨n3, hn3⟩ : ∃ n, n = os.length := ⟨_, rfl⟩
      rw [← hn3] at hol hcx hAX HO0 ⊢
      have HN3 := Lib.hid hn3
      clear hn3
      go_upto_region 14 with (fail)
      go_loopw [63] (fun v63 w' => ∃ i : Nat, i ≤ n3 ∧ v63 = .int .i64 i ∧ Hid (SetAt w' (fb + 1) k (inN ns)) ∧ Hid (SetAt w' fb i (sm (os.take i))) ∧ Hid (Req w' w.heap.size g1 9 (after ns (os.take i))) ∧ Hid (Req w' b2 g2 9 (after ns (os.take i))) ∧ Hid (RowO w' gx (.slice AX n3 cx) os) ∧ Hid (Below w.heap.size w w')) (fun i _ => n3 - (intOf i).toNat)
      case atStart => exact ⟨0, by omega, rfl, HA0, HF0, HP0, HQ0, HO0, HB0⟩
      case round =>
        clear HA0 HF0 HP0 HQ0 HO0 HB0
        obtain ⟨i, hi, rfl, HA, HF, HP, HQ, HO, HB⟩ := hrel
        by_cases hlt : i < n3
        · have hin : i < os.length := by rw [← HN3.out]; exact hlt
          obtain ⟨rfl, hgw⟩ := hAX (by omega)
          obtain ⟨e0, e1, e2, e3, e4, e5, e6, e7, e8, e9, e10⟩ := rowO_at HO.out i hin
          obtain ⟨o0, o1⟩ := HOR.out os[i] (List.getElem_mem _)
          have hts : os.take (i + 1) = os.take i ++ [os[i]] := List.take_succ_eq_append_getElem hin
          generalize os[i] = o at e0 e1 e2 e3 e4 e5 e6 e7 e8 e9 e10 o0 o1 hts
          obtain ⟨node, has, past, key, p, la, no, kd, fl, ex, bd⟩ := o
          simp only at e0 e1 e2 e3 e4 e5 e6 e7 e8 e9 e10 o0 o1
          have HTS := Lib.hid hts
          clear hts
          have hgw2 : gx < wr.heap.size := by
            rcases HO.out with ⟨h, _⟩ | ⟨cc, rest, _, _, _, ha⟩
            · cases h
            · exact ha.lt
          generalize os.take i = ops at HF HP HQ HTS
          have hlen : i < 200 := by omega
          have hcap := fun W (h : Req W w.heap.size g1 9 (after ns ops)) => take_any w.heap.size g1 9 node ⟨has, past, key, p, la, no, kd, fl, ex, bd⟩ (after ns ops) W h
          have hcaq := fun W (h : Req W b2 g2 9 (after ns ops)) => take_any b2 g2 9 node ⟨has, past, key, p, la, no, kd, fl, ex, bd⟩ (after ns ops) W h
          rw [takes_left, left_sm, take_after, ← HTS.out] at hcap hcaq
          unfold repV at hcap hcaq
          simp only at hcap hcaq
          have la_ := fun W (h : SetAt W (fb + 1) k (inN ns)) => set_look h o0 o1
          have lf_ := fun W (h : SetAt W fb i (sm ops)) => set_look h o0 o1
          have hst := sm_step ops node ⟨has, past, key, p, la, no, kd, fl, ex, bd⟩
          rw [← HTS.out] at hst
          have HST := Lib.hid hst
          have CTQ := Lib.hid hcaq
          clear hst hcaq HTS
          have hfbw := set_lt HF.out
          have hfaw := set_lt HA.out
          go_upto_region 16 with (fail)
          have HB2 := Lib.hid (below_al (o := .cells #[.int .u8 node, .bool has, .bool past, .string key, .int .u64 p, .int .u32 la, .int .u8 no, .int .u8 kd, .int .u32 fl, .int .u64 ex, .string bd] 36) HB.out)
          have AY2 := Lib.hid (at_new wr #[.int .u8 node, .bool has, .bool past, .string key, .int .u64 p, .int .u32 la, .int .u8 no, .int .u8 kd, .int .u32 fl, .int .u64 ex, .string bd] 36)
          have hbl := below_al (o := .cells #[.int .u8 node, .bool has, .bool past, .string key, .int .u64 p, .int .u32 la, .int .u8 no, .int .u8 kd, .int .u32 fl, .int .u64 ex, .string bd] 36) (Below.refl wr.heap.size wr)
          have HA2 := Lib.hid (set_below HA.out hbl)
          have HF2 := Lib.hid (set_below HF.out hbl)
          have HP2 := Lib.hid (req_below HP.out hbl)
          have HQ2 := Lib.hid (req_below HQ.out hbl)
          have HO2 := Lib.hid (rowO_below HO.out hbl)
          clear HA HF HP HQ HO HB hbl e0 e1 e2 e3 e4 e5 e6 e7 e8 e9 e10
          generalize wr.alloc (.cells #[.int .u8 node, .bool has, .bool past, .string key, .int .u64 p, .int .u32 la, .int .u8 no, .int .u8 kd, .int .u32 fl, .int .u64 ex, .string bd] 36) = w2 at *
          generalize wr.heap.size = y at *
          have AY3 := Lib.hid (at_drew AY2.out)
          have HA3 := Lib.hid (set_below HA2.out (below_drew (Below.refl _ _)))
          have HF3 := Lib.hid (set_below HF2.out (below_drew (Below.refl _ _)))
          have HP3 := Lib.hid (req_below HP2.out (below_drew (Below.refl _ _)))
          have HQ3 := Lib.hid (req_below HQ2.out (below_drew (Below.refl _ _)))
          have HO3 := Lib.hid (rowO_below HO2.out (below_drew (Below.refl _ _)))
          have HB3 := Lib.hid (below_drew HB2.out)
          clear AY2 HA2 HF2 HP2 HQ2 HO2 HB2
          cases hq1 : inN ns node with
          | true =>
            cases hq2 : sm ops node
            all_goals
              rw [hq1, hq2] at hcap
              simp only [Bool.not_true, Bool.not_false, Bool.and_true, Bool.and_false] at hcap
              have CT1 := Lib.hid hcap
              clear hcap
              refine start_ (n := 18) (S := fun w' => w'.cell? ⟨y, 0, none⟩ = some (.int .u8 node) ∧ w'.cell? ⟨y, 1, none⟩ = some (.bool has) ∧ w'.cell? ⟨y, 2, none⟩ = some (.bool past) ∧ w'.cell? ⟨y, 3, none⟩ = some (.string key) ∧ w'.cell? ⟨y, 4, none⟩ = some (.int .u64 p) ∧ w'.cell? ⟨y, 5, none⟩ = some (.int .u32 la) ∧ w'.cell? ⟨y, 6, none⟩ = some (.int .u8 no) ∧ w'.cell? ⟨y, 7, none⟩ = some (.int .u8 kd) ∧ w'.cell? ⟨y, 8, none⟩ = some (.int .u32 fl) ∧ w'.cell? ⟨y, 9, none⟩ = some (.int .u64 ex) ∧ w'.cell? ⟨y, 10, none⟩ = some (.string bd) ∧ (Instr.lookup 26 (.map (some (fb + 1))) (.int .u8 node) false).run Try.prog w' = .ok (.bool (inN ns node)) w' ∧ (Instr.lookup 26 (.map (some fb)) (.int .u8 node) false).run Try.prog w' = .ok (.bool (sm ops node)) w') (ds := []) #[false, false, false, false, false, false, false, false, false, false, false, false, false, false, false, false, false, false] (by kernel_rfl) rfl rfl ⟨(At.cell AY3.out 0).trans rfl, (At.cell AY3.out 1).trans rfl, (At.cell AY3.out 2).trans rfl, (At.cell AY3.out 3).trans rfl, (At.cell AY3.out 4).trans rfl, (At.cell AY3.out 5).trans rfl, (At.cell AY3.out 6).trans rfl, (At.cell AY3.out 7).trans rfl, (At.cell AY3.out 8).trans rfl, (At.cell AY3.out 9).trans rfl, (At.cell AY3.out 10).trans rfl, la_ _ HA3.out, lf_ _ HF3.out⟩ (fun hHeld => ?_)
              generalize w2.drew = w3 at AY3 HA3 HF3 HP3 HQ3 HO3 HB3 hHeld ⊢
              refine pure_ (i := 0) (N := some 67) (v := ?_) (a' := ?_) #[true, false, false, false, false, false, false, false, false, false, false, false, false, false, false, false, false, false] rfl rfl (by kernel_rfl) (fun _ _ _ h => h) (Or.inl ⟨by rfl, ?_⟩) ?_ ?_
              rotate_left
              · intro w'
                go_simp
                with_reducible rfl
              rotate_left
              · simp only [Act.put, List.setIfInBounds_toArray, List.set_cons_zero, List.set_cons_succ, i64_w, i32_w]
                rfl
              refine pure_ (i := 1) (N := some 68) (v := ?_) (a' := ?_) #[true, true, false, false, false, false, false, false, false, false, false, false, false, false, false, false, false, false] rfl rfl (by kernel_rfl) (fun _ _ _ h => h) (Or.inl ⟨by rfl, ?_⟩) ?_ ?_
              rotate_left
              · intro w'
                go_simp
                with_reducible rfl
              rotate_left
              · simp only [Act.put, List.setIfInBounds_toArray, List.set_cons_zero, List.set_cons_succ, i64_w, i32_w]
                rfl
              refine pure_ (i := 3) (N := some 70) (v := ?_) (a' := ?_) #[true, true, false, true, false, false, false, false, false, false, false, false, false, false, false, false, false, false] rfl rfl (by kernel_rfl) (fun _ _ _ h => h) (Or.inl ⟨by rfl, ?_⟩) ?_ ?_
              rotate_left
              · intro w'
                go_simp
                with_reducible rfl
              rotate_left
              · simp only [Act.put, List.setIfInBounds_toArray, List.set_cons_zero, List.set_cons_succ, i64_w, i32_w]
                rfl
              refine pure_ (i := 6) (N := some 73) (v := ?_) (a' := ?_) #[true, true, false, true, false, false, true, false, false, false, false, false, false, false, false, false, false, false] rfl rfl (by kernel_rfl) (fun _ _ _ h => h) (Or.inl ⟨by rfl, ?_⟩) ?_ ?_
              rotate_left
              · intro w'
                go_simp
                with_reducible rfl
              rotate_left
              · simp only [Act.put, List.setIfInBounds_toArray, List.set_cons_zero, List.set_cons_succ, i64_w, i32_w]
                rfl
              refine pure_ (i := 7) (N := some 74) (v := ?_) (a' := ?_) #[true, true, false, true, false, false, true, true, false, false, false, false, false, false, false, false, false, false] rfl rfl (by kernel_rfl) (fun _ _ _ h => h) (Or.inl ⟨by rfl, ?_⟩) ?_ ?_
              rotate_left
              · intro w'
                go_simp
                with_reducible rfl
              rotate_left
              · simp only [Act.put, List.setIfInBounds_toArray, List.set_cons_zero, List.set_cons_succ, i64_w, i32_w]
                rfl
              refine take_ (i := 2) (N := some 69) (v := ?_) (a' := ?_) #[true, true, true, true, false, false, true, true, false, false, false, false, false, false, false, false, false, false] rfl rfl (by kernel_rfl) (fun _ _ _ h => h) (Or.inl ⟨by rfl, ?_⟩) hHeld ?_ ?_
              rotate_left
              · rintro w' ⟨s0, s1, s2, s3, s4, s5, s6, s7, s8, s9, s10, s11, s12⟩
                go_simp
                with_reducible rfl
              rotate_left
              · simp only [Act.put, List.setIfInBounds_toArray, List.set_cons_zero, List.set_cons_succ, i64_w, i32_w]
                rfl
              refine take_ (i := 4) (N := some 71) (v := ?_) (a' := ?_) #[true, true, true, true, true, false, true, true, false, false, false, false, false, false, false, false, false, false] rfl rfl (by kernel_rfl) (fun _ _ _ h => h) (Or.inl ⟨by rfl, ?_⟩) hHeld ?_ ?_
              rotate_left
              · rintro w' ⟨s0, s1, s2, s3, s4, s5, s6, s7, s8, s9, s10, s11, s12⟩
                go_simp
                with_reducible rfl
              rotate_left
              · simp only [Act.put, List.setIfInBounds_toArray, List.set_cons_zero, List.set_cons_succ, i64_w, i32_w]
                rfl
              refine take_ (i := 8) (N := some 75) (v := ?_) (a' := ?_) #[true, true, true, true, true, false, true, true, true, false, false, false, false, false, false, false, false, false] rfl rfl (by kernel_rfl) (fun _ _ _ h => h) (Or.inl ⟨by rfl, ?_⟩) hHeld ?_ ?_
              rotate_left
              · rintro w' ⟨s0, s1, s2, s3, s4, s5, s6, s7, s8, s9, s10, s11, s12⟩
                go_simp
                with_reducible rfl
              rotate_left
              · simp only [Act.put, List.setIfInBounds_toArray, List.set_cons_zero, List.set_cons_succ, i64_w, i32_w]
                rfl
              refine take_ (i := 9) (N := some 76) (v := ?_) (a' := ?_) #[true, true, true, true, true, false, true, true, true, true, false, false, false, false, false, false, false, false] rfl rfl (by kernel_rfl) (fun _ _ _ h => h) (Or.inl ⟨by rfl, ?_⟩) hHeld ?_ ?_
              rotate_left
              · rintro w' ⟨s0, s1, s2, s3, s4, s5, s6, s7, s8, s9, s10, s11, s12⟩
                go_simp
                with_reducible rfl
              rotate_left
              · simp only [Act.put, List.setIfInBounds_toArray, List.set_cons_zero, List.set_cons_succ, i64_w, i32_w]
                rfl
              refine one_ (i := 5) (N := some 72) #[true, true, true, true, true, true, true, true, true, true, false, false, false, false, false, false, false, false] rfl rfl (by kernel_rfl) (by decide) (fun K hK => ?_)
              refine goes_ Try.func9 (by kernel_rfl) rfl #[.pointer (some ⟨w.heap.size, 0, none⟩), .int .u8 node, .agg #[.bool has, .bool past, .string key, .int .u64 p, .int .u32 la, .int .u8 no, .int .u8 kd, .int .u32 fl, .int .u64 ex, .string bd]] (by rfl) rfl rfl (by simp only [List.map_toArray, List.map_cons, List.map_nil]; rfl) ?_
              with_reducible refine (CT1.out _ HP3.out).mono ?_
              rintro e w4 ⟨rfl, hq4, hk4⟩
              refine ⟨_, rfl, ?_⟩
              have AY4 := Lib.hid (show At w4 y #[.int .u8 node, .bool has, .bool past, .string key, .int .u64 p, .int .u32 la, .int .u8 no, .int .u8 kd, .int .u32 fl, .int .u64 ex, .string bd] 36 from (hk4.block _ AY3.out.lt (by omega)).trans AY3.out)
              have HA4 := Lib.hid (set_chg HA3.out hk4 (by omega))
              have HF4 := Lib.hid (set_chg HF3.out hk4 (by omega))
              have HP4 := Lib.hid hq4
              have HQ4 := Lib.hid (req_chg HQ3.out hk4 (by omega) (by omega))
              have HO4 := Lib.hid (rowO_chg HO3.out hk4 (by omega))
              have HB4 := Lib.hid (below_chg' HB3.out hk4 (by omega))
              clear hq4 hk4 AY3 HA3 HF3 HP3 HQ3 HO3 HB3
              refine hK.out _ _ ⟨(At.cell AY4.out 0).trans rfl, (At.cell AY4.out 1).trans rfl, (At.cell AY4.out 2).trans rfl, (At.cell AY4.out 3).trans rfl, (At.cell AY4.out 4).trans rfl, (At.cell AY4.out 5).trans rfl, (At.cell AY4.out 6).trans rfl, (At.cell AY4.out 7).trans rfl, (At.cell AY4.out 8).trans rfl, (At.cell AY4.out 9).trans rfl, (At.cell AY4.out 10).trans rfl, la_ _ HA4.out, lf_ _ HF4.out⟩ (fun hHeld => ?_)
              clear hK K
              refine norm_ (a' := ?_) ?_ ?_
              rotate_left
              · show Act.put _ (some 72) _ = _
                simp only [Act.put, List.setIfInBounds_toArray, List.set_cons_zero, List.set_cons_succ, i64_w, i32_w]
                rfl
              refine pure_ (i := 10) (N := some 77) (v := ?_) (a' := ?_) #[true, true, true, true, true, true, true, true, true, true, true, false, false, false, false, false, false, false] rfl rfl (by kernel_rfl) (fun _ _ _ h => h) (Or.inl ⟨by rfl, ?_⟩) ?_ ?_
              rotate_left
              · intro w'
                go_simp
                with_reducible rfl
              rotate_left
              · simp only [Act.put, List.setIfInBounds_toArray, List.set_cons_zero, List.set_cons_succ, i64_w, i32_w]
                rfl
              refine pure_ (i := 11) (N := some 78) (v := ?_) (a' := ?_) #[true, true, true, true, true, true, true, true, true, true, true, true, false, false, false, false, false, false] rfl rfl (by kernel_rfl) (fun _ _ _ h => h) (Or.inl ⟨by rfl, ?_⟩) ?_ ?_
              rotate_left
              · intro w'
                go_simp
                with_reducible rfl
              rotate_left
              · simp only [Act.put, List.setIfInBounds_toArray, List.set_cons_zero, List.set_cons_succ, i64_w, i32_w]
                rfl
              refine pure_ (i := 12) (N := some 79) (v := ?_) (a' := ?_) #[true, true, true, true, true, true, true, true, true, true, true, true, true, false, false, false, false, false] rfl rfl (by kernel_rfl) (fun _ _ _ h => h) (Or.inl ⟨by rfl, ?_⟩) ?_ ?_
              rotate_left
              · intro w'
                go_simp
                with_reducible rfl
              rotate_left
              · simp only [Act.put, List.setIfInBounds_toArray, List.set_cons_zero, List.set_cons_succ, i64_w, i32_w]
                rfl
              refine take_ (i := 13) (N := some 80) (v := ?_) (a' := ?_) #[true, true, true, true, true, true, true, true, true, true, true, true, true, true, false, false, false, false] rfl rfl (by kernel_rfl) (fun _ _ _ h => h) (Or.inl ⟨by rfl, ?_⟩) hHeld ?_ ?_
              rotate_left
              · rintro w' ⟨s0, s1, s2, s3, s4, s5, s6, s7, s8, s9, s10, s11, s12⟩
                go_simp
                with_reducible rfl
              rotate_left
              · simp only [Act.put, List.setIfInBounds_toArray, List.set_cons_zero, List.set_cons_succ, i64_w, i32_w]
                rfl
              refine take_ (i := 14) (N := some 81) (v := ?_) (a' := ?_) #[true, true, true, true, true, true, true, true, true, true, true, true, true, true, true, false, false, false] rfl rfl (by kernel_rfl) (fun _ _ _ h => h) (Or.inl ⟨by rfl, ?_⟩) hHeld ?_ ?_
              rotate_left
              · rintro w' ⟨s0, s1, s2, s3, s4, s5, s6, s7, s8, s9, s10, s11, s12⟩
                go_simp
                with_reducible rfl
              rotate_left
              · simp only [Act.put, List.setIfInBounds_toArray, List.set_cons_zero, List.set_cons_succ, i64_w, i32_w]
                rfl
              refine pure_ (i := 15) (N := some 82) (v := ?_) (a' := ?_) #[true, true, true, true, true, true, true, true, true, true, true, true, true, true, true, true, false, false] rfl rfl (by kernel_rfl) (fun _ _ _ h => h) (Or.inl ⟨by rfl, ?_⟩) ?_ ?_
              rotate_left
              · intro w'
                go_simp
                with_reducible rfl
              rotate_left
              · simp only [Act.put, List.setIfInBounds_toArray, List.set_cons_zero, List.set_cons_succ, i64_w, i32_w]
                rfl
              refine pure_ (i := 16) (N := some 83) (v := ?_) (a' := ?_) #[true, true, true, true, true, true, true, true, true, true, true, true, true, true, true, true, true, false] rfl rfl (by kernel_rfl) (fun _ _ _ h => h) (Or.inl ⟨by rfl, ?_⟩) ?_ ?_
              rotate_left
              · intro w'
                go_simp
                with_reducible rfl
              rotate_left
              · simp only [Act.put, List.setIfInBounds_toArray, List.set_cons_zero, List.set_cons_succ, i64_w, i32_w]
                rfl
              refine pure_ (i := 17) (N := some 84) (v := ?_) (a' := ?_) #[true, true, true, true, true, true, true, true, true, true, true, true, true, true, true, true, true, true] rfl rfl (by kernel_rfl) (fun _ _ _ h => h) (Or.inl ⟨by rfl, ?_⟩) ?_ ?_
              rotate_left
              · intro w'
                go_simp
                with_reducible rfl
              rotate_left
              · simp only [Act.put, List.setIfInBounds_toArray, List.set_cons_zero, List.set_cons_succ, i64_w, i32_w]
                rfl
              refine done_ (by kernel_rfl) ?_
              obtain ⟨x0, x1, x2, x3, x4, x5, x6, x7, x8, x9, x10⟩ := at11 AY4.out
              go_upto_region 19 with ((with_reducible refine (CTQ.out _ HQ4.out).mono ?_); rintro e w5 ⟨rfl, hq5, hk5⟩)
              have AY5 := Lib.hid (show At w5 y #[.int .u8 node, .bool has, .bool past, .string key, .int .u64 p, .int .u32 la, .int .u8 no, .int .u8 kd, .int .u32 fl, .int .u64 ex, .string bd] 36 from (hk5.block _ AY4.out.lt (by omega)).trans AY4.out)
              have HA5 := Lib.hid (set_chg HA4.out hk5 (by omega))
              have HF5 := Lib.hid (set_chg HF4.out hk5 (by omega))
              have HP5 := Lib.hid (req_chg HP4.out hk5 (by omega) (by omega))
              have HQ5 := Lib.hid hq5
              have HO5 := Lib.hid (rowO_chg HO4.out hk5 (by omega))
              have HB5 := Lib.hid (below_chg' HB4.out hk5 (by omega))
              clear hq5 hk5 AY4 HA4 HF4 HP4 HQ4 HO4 HB4 x0 x1 x2 x3 x4 x5 x6 x7 x8 x9 x10
              have x0 := AY5.out.cell 0
              go_wp2_with (at_mapUpdate; refine wp_set_put _ rfl _ _ _ rfl fb i _ rfl HF5.out (by omega) node o0 o1 rfl rfl ?_; intro w6 hs6 hk6)
              exact ⟨⟨i + 1, by omega, by go_num, Lib.hid (set_chg HA5.out hk6 (by omega)), Lib.hid (set_iff hs6 (fun j => (HST.out j).symm)), Lib.hid (req_chg HP5.out hk6 (by omega) (by omega)), Lib.hid (req_chg HQ5.out hk6 (by omega) (by omega)), Lib.hid (rowO_chg HO5.out hk6 (by omega)), Lib.hid (below_chg' HB5.out hk6 (by omega))⟩, by simp [intOf]; omega⟩
          | false =>
            have CT1 := Lib.hid hcap
            rw [hq1, Bool.false_and] at CT1
            clear hcap
            refine start_ (n := 18) (S := fun w' => w'.cell? ⟨y, 0, none⟩ = some (.int .u8 node) ∧ w'.cell? ⟨y, 1, none⟩ = some (.bool has) ∧ w'.cell? ⟨y, 2, none⟩ = some (.bool past) ∧ w'.cell? ⟨y, 3, none⟩ = some (.string key) ∧ w'.cell? ⟨y, 4, none⟩ = some (.int .u64 p) ∧ w'.cell? ⟨y, 5, none⟩ = some (.int .u32 la) ∧ w'.cell? ⟨y, 6, none⟩ = some (.int .u8 no) ∧ w'.cell? ⟨y, 7, none⟩ = some (.int .u8 kd) ∧ w'.cell? ⟨y, 8, none⟩ = some (.int .u32 fl) ∧ w'.cell? ⟨y, 9, none⟩ = some (.int .u64 ex) ∧ w'.cell? ⟨y, 10, none⟩ = some (.string bd) ∧ (Instr.lookup 26 (.map (some (fb + 1))) (.int .u8 node) false).run Try.prog w' = .ok (.bool (inN ns node)) w' ∧ (Instr.lookup 26 (.map (some fb)) (.int .u8 node) false).run Try.prog w' = .ok (.bool (sm ops node)) w') (ds := []) #[false, false, false, false, false, false, false, false, false, false, false, false, false, false, false, false, false, false] (by kernel_rfl) rfl rfl ⟨(At.cell AY3.out 0).trans rfl, (At.cell AY3.out 1).trans rfl, (At.cell AY3.out 2).trans rfl, (At.cell AY3.out 3).trans rfl, (At.cell AY3.out 4).trans rfl, (At.cell AY3.out 5).trans rfl, (At.cell AY3.out 6).trans rfl, (At.cell AY3.out 7).trans rfl, (At.cell AY3.out 8).trans rfl, (At.cell AY3.out 9).trans rfl, (At.cell AY3.out 10).trans rfl, la_ _ HA3.out, lf_ _ HF3.out⟩ (fun hHeld => ?_)
            generalize w2.drew = w3 at AY3 HA3 HF3 HP3 HQ3 HO3 HB3 hHeld ⊢
            refine pure_ (i := 0) (N := some 67) (v := ?_) (a' := ?_) #[true, false, false, false, false, false, false, false, false, false, false, false, false, false, false, false, false, false] rfl rfl (by kernel_rfl) (fun _ _ _ h => h) (Or.inl ⟨by rfl, ?_⟩) ?_ ?_
            rotate_left
            · intro w'
              go_simp
              with_reducible rfl
            rotate_left
            · simp only [Act.put, List.setIfInBounds_toArray, List.set_cons_zero, List.set_cons_succ, i64_w, i32_w]
              rfl
            refine pure_ (i := 1) (N := some 68) (v := ?_) (a' := ?_) #[true, true, false, false, false, false, false, false, false, false, false, false, false, false, false, false, false, false] rfl rfl (by kernel_rfl) (fun _ _ _ h => h) (Or.inl ⟨by rfl, ?_⟩) ?_ ?_
            rotate_left
            · intro w'
              go_simp
              with_reducible rfl
            rotate_left
            · simp only [Act.put, List.setIfInBounds_toArray, List.set_cons_zero, List.set_cons_succ, i64_w, i32_w]
              rfl
            refine pure_ (i := 3) (N := some 70) (v := ?_) (a' := ?_) #[true, true, false, true, false, false, false, false, false, false, false, false, false, false, false, false, false, false] rfl rfl (by kernel_rfl) (fun _ _ _ h => h) (Or.inl ⟨by rfl, ?_⟩) ?_ ?_
            rotate_left
            · intro w'
              go_simp
              with_reducible rfl
            rotate_left
            · simp only [Act.put, List.setIfInBounds_toArray, List.set_cons_zero, List.set_cons_succ, i64_w, i32_w]
              rfl
            refine pure_ (i := 6) (N := some 73) (v := ?_) (a' := ?_) #[true, true, false, true, false, false, true, false, false, false, false, false, false, false, false, false, false, false] rfl rfl (by kernel_rfl) (fun _ _ _ h => h) (Or.inl ⟨by rfl, ?_⟩) ?_ ?_
            rotate_left
            · intro w'
              go_simp
              with_reducible rfl
            rotate_left
            · simp only [Act.put, List.setIfInBounds_toArray, List.set_cons_zero, List.set_cons_succ, i64_w, i32_w]
              rfl
            refine pure_ (i := 7) (N := some 74) (v := ?_) (a' := ?_) #[true, true, false, true, false, false, true, true, false, false, false, false, false, false, false, false, false, false] rfl rfl (by kernel_rfl) (fun _ _ _ h => h) (Or.inl ⟨by rfl, ?_⟩) ?_ ?_
            rotate_left
            · intro w'
              go_simp
              with_reducible rfl
            rotate_left
            · simp only [Act.put, List.setIfInBounds_toArray, List.set_cons_zero, List.set_cons_succ, i64_w, i32_w]
              rfl
            refine take_ (i := 2) (N := some 69) (v := ?_) (a' := ?_) #[true, true, true, true, false, false, true, true, false, false, false, false, false, false, false, false, false, false] rfl rfl (by kernel_rfl) (fun _ _ _ h => h) (Or.inl ⟨by rfl, ?_⟩) hHeld ?_ ?_
            rotate_left
            · rintro w' ⟨s0, s1, s2, s3, s4, s5, s6, s7, s8, s9, s10, s11, s12⟩
              go_simp
              with_reducible rfl
            rotate_left
            · simp only [Act.put, List.setIfInBounds_toArray, List.set_cons_zero, List.set_cons_succ, i64_w, i32_w]
              rfl
            refine take_ (i := 4) (N := some 71) (v := ?_) (a' := ?_) #[true, true, true, true, true, false, true, true, false, false, false, false, false, false, false, false, false, false] rfl rfl (by kernel_rfl) (fun _ _ _ h => h) (Or.inl ⟨by rfl, ?_⟩) hHeld ?_ ?_
            rotate_left
            · rintro w' ⟨s0, s1, s2, s3, s4, s5, s6, s7, s8, s9, s10, s11, s12⟩
              go_simp
              with_reducible rfl
            rotate_left
            · simp only [Act.put, List.setIfInBounds_toArray, List.set_cons_zero, List.set_cons_succ, i64_w, i32_w]
              rfl
            refine take_ (i := 8) (N := some 75) (v := ?_) (a' := ?_) #[true, true, true, true, true, false, true, true, true, false, false, false, false, false, false, false, false, false] rfl rfl (by kernel_rfl) (fun _ _ _ h => h) (Or.inl ⟨by rfl, ?_⟩) hHeld ?_ ?_
            rotate_left
            · rintro w' ⟨s0, s1, s2, s3, s4, s5, s6, s7, s8, s9, s10, s11, s12⟩
              go_simp
              with_reducible rfl
            rotate_left
            · simp only [Act.put, List.setIfInBounds_toArray, List.set_cons_zero, List.set_cons_succ, i64_w, i32_w]
              rfl
            refine take_ (i := 9) (N := some 76) (v := ?_) (a' := ?_) #[true, true, true, true, true, false, true, true, true, true, false, false, false, false, false, false, false, false] rfl rfl (by kernel_rfl) (fun _ _ _ h => h) (Or.inl ⟨by rfl, ?_⟩) hHeld ?_ ?_
            rotate_left
            · rintro w' ⟨s0, s1, s2, s3, s4, s5, s6, s7, s8, s9, s10, s11, s12⟩
              go_simp
              with_reducible rfl
            rotate_left
            · simp only [Act.put, List.setIfInBounds_toArray, List.set_cons_zero, List.set_cons_succ, i64_w, i32_w]
              rfl
            refine one_ (i := 5) (N := some 72) #[true, true, true, true, true, true, true, true, true, true, false, false, false, false, false, false, false, false] rfl rfl (by kernel_rfl) (by decide) (fun K hK => ?_)
            refine goes_ Try.func9 (by kernel_rfl) rfl #[.pointer (some ⟨w.heap.size, 0, none⟩), .int .u8 node, .agg #[.bool has, .bool past, .string key, .int .u64 p, .int .u32 la, .int .u8 no, .int .u8 kd, .int .u32 fl, .int .u64 ex, .string bd]] (by rfl) rfl rfl (by simp only [List.map_toArray, List.map_cons, List.map_nil]; rfl) ?_
            with_reducible refine (CT1.out _ HP3.out).mono ?_
            rintro e w4 ⟨rfl, hq4, hk4⟩
            refine ⟨_, rfl, ?_⟩
            have AY4 := Lib.hid (show At w4 y #[.int .u8 node, .bool has, .bool past, .string key, .int .u64 p, .int .u32 la, .int .u8 no, .int .u8 kd, .int .u32 fl, .int .u64 ex, .string bd] 36 from (hk4.block _ AY3.out.lt (by omega)).trans AY3.out)
            have HA4 := Lib.hid (set_chg HA3.out hk4 (by omega))
            have HF4 := Lib.hid (set_chg HF3.out hk4 (by omega))
            have HP4 := Lib.hid hq4
            have HQ4 := Lib.hid (req_chg HQ3.out hk4 (by omega) (by omega))
            have HO4 := Lib.hid (rowO_chg HO3.out hk4 (by omega))
            have HB4 := Lib.hid (below_chg' HB3.out hk4 (by omega))
            clear hq4 hk4 AY3 HA3 HF3 HP3 HQ3 HO3 HB3
            refine hK.out _ _ ⟨(At.cell AY4.out 0).trans rfl, (At.cell AY4.out 1).trans rfl, (At.cell AY4.out 2).trans rfl, (At.cell AY4.out 3).trans rfl, (At.cell AY4.out 4).trans rfl, (At.cell AY4.out 5).trans rfl, (At.cell AY4.out 6).trans rfl, (At.cell AY4.out 7).trans rfl, (At.cell AY4.out 8).trans rfl, (At.cell AY4.out 9).trans rfl, (At.cell AY4.out 10).trans rfl, la_ _ HA4.out, lf_ _ HF4.out⟩ (fun hHeld => ?_)
            clear hK K
            refine norm_ (a' := ?_) ?_ ?_
            rotate_left
            · show Act.put _ (some 72) _ = _
              simp only [Act.put, List.setIfInBounds_toArray, List.set_cons_zero, List.set_cons_succ, i64_w, i32_w]
              rfl
            refine pure_ (i := 10) (N := some 77) (v := ?_) (a' := ?_) #[true, true, true, true, true, true, true, true, true, true, true, false, false, false, false, false, false, false] rfl rfl (by kernel_rfl) (fun _ _ _ h => h) (Or.inl ⟨by rfl, ?_⟩) ?_ ?_
            rotate_left
            · intro w'
              go_simp
              with_reducible rfl
            rotate_left
            · simp only [Act.put, List.setIfInBounds_toArray, List.set_cons_zero, List.set_cons_succ, i64_w, i32_w]
              rfl
            refine pure_ (i := 11) (N := some 78) (v := undef) (a' := ?_) #[true, true, true, true, true, true, true, true, true, true, true, true, false, false, false, false, false, false] rfl rfl (by kernel_rfl) (fun _ _ _ h => h) (Or.inr ⟨by rfl, rfl⟩) ?_ ?_
            rotate_left
            · simp only [Act.put, List.setIfInBounds_toArray, List.set_cons_zero, List.set_cons_succ, i64_w, i32_w]
              rfl
            refine pure_ (i := 12) (N := some 79) (v := undef) (a' := ?_) #[true, true, true, true, true, true, true, true, true, true, true, true, true, false, false, false, false, false] rfl rfl (by kernel_rfl) (fun _ _ _ h => h) (Or.inr ⟨by rfl, rfl⟩) ?_ ?_
            rotate_left
            · simp only [Act.put, List.setIfInBounds_toArray, List.set_cons_zero, List.set_cons_succ, i64_w, i32_w]
              rfl
            refine pure_ (i := 13) (N := some 80) (v := undef) (a' := ?_) #[true, true, true, true, true, true, true, true, true, true, true, true, true, true, false, false, false, false] rfl rfl (by kernel_rfl) (fun _ _ _ h => h) (Or.inr ⟨by rfl, rfl⟩) ?_ ?_
            rotate_left
            · simp only [Act.put, List.setIfInBounds_toArray, List.set_cons_zero, List.set_cons_succ, i64_w, i32_w]
              rfl
            refine pure_ (i := 14) (N := some 81) (v := undef) (a' := ?_) #[true, true, true, true, true, true, true, true, true, true, true, true, true, true, true, false, false, false] rfl rfl (by kernel_rfl) (fun _ _ _ h => h) (Or.inr ⟨by rfl, rfl⟩) ?_ ?_
            rotate_left
            · simp only [Act.put, List.setIfInBounds_toArray, List.set_cons_zero, List.set_cons_succ, i64_w, i32_w]
              rfl
            refine pure_ (i := 15) (N := some 82) (v := undef) (a' := ?_) #[true, true, true, true, true, true, true, true, true, true, true, true, true, true, true, true, false, false] rfl rfl (by kernel_rfl) (fun _ _ _ h => h) (Or.inr ⟨by rfl, rfl⟩) ?_ ?_
            rotate_left
            · simp only [Act.put, List.setIfInBounds_toArray, List.set_cons_zero, List.set_cons_succ, i64_w, i32_w]
              rfl
            refine pure_ (i := 16) (N := some 83) (v := ?_) (a' := ?_) #[true, true, true, true, true, true, true, true, true, true, true, true, true, true, true, true, true, false] rfl rfl (by kernel_rfl) (fun _ _ _ h => h) (Or.inl ⟨by rfl, ?_⟩) ?_ ?_
            rotate_left
            · intro w'
              go_simp
              with_reducible rfl
            rotate_left
            · simp only [Act.put, List.setIfInBounds_toArray, List.set_cons_zero, List.set_cons_succ, i64_w, i32_w]
              rfl
            refine pure_ (i := 17) (N := some 84) (v := ?_) (a' := ?_) #[true, true, true, true, true, true, true, true, true, true, true, true, true, true, true, true, true, true] rfl rfl (by kernel_rfl) (fun _ _ _ h => h) (Or.inl ⟨by rfl, ?_⟩) ?_ ?_
            rotate_left
            · intro w'
              go_simp
              with_reducible rfl
            rotate_left
            · simp only [Act.put, List.setIfInBounds_toArray, List.set_cons_zero, List.set_cons_succ, i64_w, i32_w]
              rfl
            refine done_ (by kernel_rfl) ?_
            obtain ⟨x0, x1, x2, x3, x4, x5, x6, x7, x8, x9, x10⟩ := at11 AY4.out
            go_upto_region 19 with ((with_reducible refine (CTQ.out _ HQ4.out).mono ?_); rintro e w5 ⟨rfl, hq5, hk5⟩)
            have AY5 := Lib.hid (show At w5 y #[.int .u8 node, .bool has, .bool past, .string key, .int .u64 p, .int .u32 la, .int .u8 no, .int .u8 kd, .int .u32 fl, .int .u64 ex, .string bd] 36 from (hk5.block _ AY4.out.lt (by omega)).trans AY4.out)
            have HA5 := Lib.hid (set_chg HA4.out hk5 (by omega))
            have HF5 := Lib.hid (set_chg HF4.out hk5 (by omega))
            have HP5 := Lib.hid (req_chg HP4.out hk5 (by omega) (by omega))
            have HQ5 := Lib.hid hq5
            have HO5 := Lib.hid (rowO_chg HO4.out hk5 (by omega))
            have HB5 := Lib.hid (below_chg' HB4.out hk5 (by omega))
            clear hq5 hk5 AY4 HA4 HF4 HP4 HQ4 HO4 HB4 x0 x1 x2 x3 x4 x5 x6 x7 x8 x9 x10
            have x0 := AY5.out.cell 0
            go_wp2_with (at_mapUpdate; refine wp_set_put _ rfl _ _ _ rfl fb i _ rfl HF5.out (by omega) node o0 o1 rfl rfl ?_; intro w6 hs6 hk6)
            exact ⟨⟨i + 1, by omega, by go_num, Lib.hid (set_chg HA5.out hk6 (by omega)), Lib.hid (set_iff hs6 (fun j => (HST.out j).symm)), Lib.hid (req_chg HP5.out hk6 (by omega) (by omega)), Lib.hid (req_chg HQ5.out hk6 (by omega) (by omega)), Lib.hid (rowO_chg HO5.out hk6 (by omega)), Lib.hid (below_chg' HB5.out hk6 (by omega))⟩, by simp [intOf]; omega⟩
        · obtain rfl : i = n3 := by omega
          clear hlt
          have HF1 := Lib.hid (show SetAt wr fb i (sm os) from by have := HF.out; rw [show os.take i = os from by rw [HN3.out, List.take_length]] at this; exact this)
          have HP1 := Lib.hid (show Req wr w.heap.size g1 9 (after ns os) from by have := HP.out; rw [show os.take i = os from by rw [HN3.out, List.take_length]] at this; exact this)
          have HQ1 := Lib.hid (show Req wr b2 g2 9 (after ns os) from by have := HQ.out; rw [show os.take i = os from by rw [HN3.out, List.take_length]] at this; exact this)
          clear HF HP HQ HA
          go_wp2_with (fail)
          refine (CU2.out wr HB.out).mono ?_
          rintro e w5 ⟨v, gz, oz, rfl, hro, hgz, hol2, hor2, hb5⟩
          obtain ⟨AZ, cz, rfl, hcz, hAZ⟩ := rowO_val hro
          have HF2 := Lib.hid (set_below HF1.out hb5)
          have HP2 := Lib.hid (req_below HP1.out hb5)
          have HQ2 := Lib.hid (req_below HQ1.out hb5)
          have HB2 := Lib.hid (below_on HB.out hb5)
          have HO2 := Lib.hid hro
          have HOR2 := Lib.hid hor2
          have hfz := set_lt HF1.out
          have hgzb : fb < gz := by omega
          have hb2z : g2 < gz := by omega
          clear HF1 HP1 HQ1 HB HO hro hor2 hb5 HOR hAX
          obtain ⟨n4, hn4⟩ : ∃ n, n = oz.length := ⟨_, rfl⟩
          rw [← hn4] at hol2 hcz hAZ HO2 ⊢
          have HN4 := Lib.hid hn4
          clear hn4
          go_upto_region 22 with (fail)
          go_loopw [99] (fun v99 w' => ∃ q : Nat, q ≤ n4 ∧ v99 = .int .i64 q ∧ Hid (SetAt w' fb i (sm os)) ∧ Hid (Req w' w.heap.size g1 9 (after ns os)) ∧ Hid (Req w' b2 g2 9 (after ns os)) ∧ Hid (RowO w' gz (.slice AZ n4 cz) oz) ∧ Hid (Below w.heap.size w w')) (fun i _ => n4 - (intOf i).toNat)
          case atStart => exact ⟨0, by omega, rfl, HF2, HP2, HQ2, HO2, HB2⟩
          case round =>
            clear HF2 HP2 HQ2 HO2 HB2
            obtain ⟨q, hq, rfl, HF, HP, HQ, HO, HB⟩ := hrel
            by_cases hlt : q < n4
            · have hin : q < oz.length := by rw [← HN4.out]; exact hlt
              obtain ⟨rfl, hgw⟩ := hAZ (by omega)
              obtain ⟨e0, e1, e2, e3, e4, e5, e6, e7, e8, e9, e10⟩ := rowO_at HO.out q hin
              obtain ⟨o0, o1⟩ := HOR2.out oz[q] (List.getElem_mem _)
              generalize oz[q] = o at e0 e1 e2 e3 e4 e5 e6 e7 e8 e9 e10 o0 o1
              obtain ⟨node, has, past, key, p, la, no, kd, fl, ex, bd⟩ := o
              simp only at e0 e1 e2 e3 e4 e5 e6 e7 e8 e9 e10 o0 o1
              have hgw2 : gz < wr.heap.size := by
                rcases HO.out with ⟨h, _⟩ | ⟨cc, rest, _, _, _, ha⟩
                · cases h
                · exact ha.lt
              have lf_ := fun W (h : SetAt W fb i (sm os)) => set_look h o0 o1
              have hfbw := set_lt HF.out
              go_upto_region 24 with (fail)
              have AY3 := Lib.hid (at_new wr #[.int .u8 node, .bool has, .bool past, .string key, .int .u64 p, .int .u32 la, .int .u8 no, .int .u8 kd, .int .u32 fl, .int .u64 ex, .string bd] 36)
              have hbl := below_al (o := .cells #[.int .u8 node, .bool has, .bool past, .string key, .int .u64 p, .int .u32 la, .int .u8 no, .int .u8 kd, .int .u32 fl, .int .u64 ex, .string bd] 36) (Below.refl wr.heap.size wr)
              have HF3 := Lib.hid (set_below HF.out hbl)
              have HP3 := Lib.hid (req_below HP.out hbl)
              have HQ3 := Lib.hid (req_below HQ.out hbl)
              have HO3 := Lib.hid (rowO_below HO.out hbl)
              have HB3 := Lib.hid (below_on HB.out hbl)
              clear HF HP HQ HO HB hbl e0 e1 e2 e3 e4 e5 e6 e7 e8 e9 e10
              generalize wr.alloc (.cells #[.int .u8 node, .bool has, .bool past, .string key, .int .u64 p, .int .u32 la, .int .u8 no, .int .u8 kd, .int .u32 fl, .int .u64 ex, .string bd] 36) = w3 at *
              generalize wr.heap.size = y at *
              have hlk := lf_ _ HF3.out
              obtain ⟨x0, x1, x2, x3, x4, x5, x6, x7, x8, x9, x10⟩ := at11 AY3.out
              cases hsm : sm os node with
              | false =>
                rw [hsm] at hlk
                go_wp2_with (fail)
                exact ⟨⟨q + 1, by omega, by go_num, HF3, HP3, HQ3, HO3, HB3⟩, by simp [intOf]; omega⟩
              | true =>
                rw [hsm] at hlk
                have hcap := take_any w.heap.size g1 9 node ⟨has, past, key, p, la, no, kd, fl, ex, bd⟩ (after ns os) w3 HP3.out
                have htk : takes node (after ns os) = false := by rw [takes_left, left_sm, hsm]; simp
                rw [htk, take_none _ _ _ htk] at hcap
                unfold repV at hcap
                simp only at hcap
                have CT := Lib.hid hcap
                clear hcap htk
                go_wp2_with ((with_reducible refine (CT.out).mono ?_); rintro e w6 ⟨rfl, hq6, hk6⟩)
                exact ⟨⟨q + 1, by omega, by go_num, Lib.hid (set_chg HF3.out hk6 (by omega)), Lib.hid hq6, Lib.hid (req_chg HQ3.out hk6 (by omega) (by omega)), Lib.hid (rowO_chg HO3.out hk6 (by omega)), Lib.hid (below_chg' HB3.out hk6 (by omega))⟩, by simp [intOf]; omega⟩
            · obtain rfl : q = n4 := by omega
              clear hlt HF HO hAZ
              have cb1 := fun W (h : Req W w.heap.size g1 9 (after ns os)) => best_any w.heap.size g1 9 (after ns os) W h
              have cb2 := fun W (h : Req W b2 g2 9 (after ns os)) => best_any b2 g2 9 (after ns os) W h
              have cy1 := fun W (h : Req W w.heap.size g1 9 (after ns os)) => yes_any w.heap.size g1 9 (after ns os) W h
              have cy2 := fun W (h : Req W b2 g2 9 (after ns os)) => yes_any b2 g2 9 (after ns os) W h
              generalize after ns os = l at *
              generalize yesN l = yn at cy1 cy2
              generalize bestF l = s at cb1 cb2
              obtain ⟨⟨bhas, bpast, bkey, bp, bl, bn, bkd, bfl, bex, bbd⟩, live, there⟩ := s
              simp only [bestV, recA] at cb1 cb2
              have hq2 := fun w => run_eql_struct (P := Try.prog) (w := w) 32 #[.string bkey, .int .u64 bp, .int .u32 bl, .int .u8 bn, .int .u8 bkd, .int .u32 bfl, .int .u64 bex, .string bbd] #[.string bkey, .int .u64 bp, .int .u32 bl, .int .u8 bn, .int .u8 bkd, .int .u32 bfl, .int .u64 bex, .string bbd]
              simp only [eqSelf, Result.andThen] at hq2
              have HQ2 := Lib.hid hq2
              have CB1 := Lib.hid cb1
              have CB2 := Lib.hid cb2
              have CY1 := Lib.hid cy1
              have CY2 := Lib.hid cy2
              clear cb1 cb2 cy1 cy2 hq2
              go_upto_region 28 with ((with_reducible refine (CB1.out _ HP.out).mono ?_); rintro e w5 ⟨rfl, hb5⟩)
              have AX5 := Lib.hid (at_new w5 #[.string bkey, .int .u64 bp, .int .u32 bl, .int .u8 bn, .int .u8 bkd, .int .u32 bfl, .int .u64 bex, .string bbd] 32)
              have hbl5 := below_al (o := .cells #[.string bkey, .int .u64 bp, .int .u32 bl, .int .u8 bn, .int .u8 bkd, .int .u32 bfl, .int .u64 bex, .string bbd] 32) (Below.refl w5.heap.size w5)
              have HP5 := Lib.hid (req_below (req_below HP.out hb5) hbl5)
              have HQ5 := Lib.hid (req_below (req_below HQ.out hb5) hbl5)
              have HB5 := Lib.hid (below_on (below_on HB.out hb5) hbl5)
              clear HP HQ HB hb5 hbl5
              generalize w5.alloc (.cells #[.string bkey, .int .u64 bp, .int .u32 bl, .int .u8 bn, .int .u8 bkd, .int .u32 bfl, .int .u64 bex, .string bbd] 32) = w6 at *
              generalize w5.heap.size = ya at *
              go_upto_region 29 with ((with_reducible refine (CB2.out _ HQ5.out).mono ?_); rintro e w7 ⟨rfl, hb7⟩)
              have AZ7 := Lib.hid (at_new w7 #[.string bkey, .int .u64 bp, .int .u32 bl, .int .u8 bn, .int .u8 bkd, .int .u32 bfl, .int .u64 bex, .string bbd] 32)
              have hbl7 := below_al (o := .cells #[.string bkey, .int .u64 bp, .int .u32 bl, .int .u8 bn, .int .u8 bkd, .int .u32 bfl, .int .u64 bex, .string bbd] 32) (Below.refl w7.heap.size w7)
              have AX7 := Lib.hid (at_below (at_below AX5.out hb7) hbl7)
              have HP7 := Lib.hid (req_below (req_below HP5.out hb7) hbl7)
              have HQ7 := Lib.hid (req_below (req_below HQ5.out hb7) hbl7)
              have HB7 := Lib.hid (below_on (below_on HB5.out hb7) hbl7)
              clear HP5 HQ5 HB5 AX5 hb7 hbl7
              generalize w7.alloc (.cells #[.string bkey, .int .u64 bp, .int .u32 bl, .int .u8 bn, .int .u8 bkd, .int .u32 bfl, .int .u64 bex, .string bbd] 32) = w8 at *
              generalize w7.heap.size = yb at *
              have cbn := fun W => best_none W
              simp only [bestV, recA, bs0, rep0] at cbn
              go_upto_region 31 with ((with_reducible refine (cbn _).mono ?_); rintro e w9 ⟨rfl, hb9⟩)
              have hbl9 := below_al (o := .cells #[.string ⟨#[]⟩, .int .u64 0, .int .u32 0, .int .u8 0, .int .u8 0, .int .u32 0, .int .u64 0, .string ⟨#[]⟩] 32) (Below.refl w9.heap.size w9)
              have AX9 := Lib.hid (at_below (at_below AX7.out hb9) hbl9)
              have AZ9 := Lib.hid (at_below (at_below AZ7.out hb9) hbl9)
              have HP9 := Lib.hid (req_below (req_below HP7.out hb9) hbl9)
              have HQ9 := Lib.hid (req_below (req_below HQ7.out hb9) hbl9)
              have HB9 := Lib.hid (below_on (below_on HB7.out hb9) hbl9)
              clear HP7 HQ7 HB7 AX7 AZ7 hb9 hbl9 cbn
              generalize w9.alloc (.cells #[.string ⟨#[]⟩, .int .u64 0, .int .u32 0, .int .u8 0, .int .u8 0, .int .u32 0, .int .u64 0, .string ⟨#[]⟩] 32) = w10 at *
              generalize w9.heap.size = yc at *
              go_wp2_with ((with_reducible refine (fixed_any _).mono ?_); rintro e w11 ⟨rfl, hb11⟩; obtain ⟨a0, a1, a2, a3, a4, a5, a6, a7, -⟩ := at8 (at_below AX9.out hb11); obtain ⟨d0, d1, d2, d3, d4, d5, d6, d7, -⟩ := at8 (at_below AZ9.out hb11); have hq2 := HQ2.out)
              clear a0 a1 a2 a3 a4 a5 a6 a7 d0 d1 d2 d3 d4 d5 d6 d7 hq2 AX9 AZ9
              refine (CY1.out _ (req_below HP9.out hb11)).mono ?_
              rintro e w12 ⟨rfl, hb12⟩
              have HQ12 := Lib.hid (req_below (req_below HQ9.out hb11) hb12)
              have HB12 := Lib.hid (below_on (below_on HB9.out hb11) hb12)
              clear HP9 HQ9 HB9 hb11 hb12
              go_wp2_with (fail)
              refine (CY2.out _ HQ12.out).mono ?_
              rintro e w13 ⟨rfl, hb13⟩
              have tn := fun W => take_no 1 rep0 W
              simp only [repV, rep0] at tn
              go_wp2_with (fail)
              refine (tn _).mono ?_
              rintro e w14 ⟨rfl, hb14⟩
              clear tn
              go_wp2_with (fail)
              refine (over_none 0 _).mono ?_
              rintro e w15 ⟨rfl, hb15⟩
              go_wp2_with (fail)
              refine (yes_none _).mono ?_
              rintro e w16 ⟨rfl, hb16⟩
              go_wp2_with (fail)
              refine (behind_none _).mono ?_
              rintro e w17 ⟨rfl, hb17⟩
              go_wp2_with (fail)
              go_ret
              exact ⟨rfl, below_on (below_on (below_on (below_on (below_on HB12.out hb13) hb14) hb15) hb16) hb17⟩
end Go.Proofs.Ytnbcbokdbenbiaa.Ask

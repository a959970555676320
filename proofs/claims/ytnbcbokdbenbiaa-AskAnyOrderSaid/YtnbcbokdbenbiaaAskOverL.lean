/- AskOver answers true: the walk (own text; written by wip/tools/gen_askover.py). -/
import Derived.Test.YtnbcbokdbenbiaaAskMap
namespace Go.Proofs.Ytnbcbokdbenbiaa.Ask
open Go.RowKit Go.Proofs.Ytnbcbokdbenbiaa.Mem Go.Lib Go.Proofs.YtnbcbokdbenbiaaW.PrintWords Go.Proofs.YtnbcbokdbenbiaaW.PrintLast Go.Proofs.YtnbcbokdbenbiaaW.PrintMore
set_option linter.unusedVariables false
set_option linter.unusedSimpArgs false
def opsR (ns : List Int) (r : Rep) : List (Int × Rep) := ns.map fun n => (n, r)
def left (ns : List Int) (ops : List (Int × Rep)) (m : Int) : Bool := ns.contains m && (first ops m).isNone
theorem takes_left (ns : List Int) (ops : List (Int × Rep)) (m : Int) : takes m (after ns ops) = left ns ops m := takes_after ns ops m
theorem left_step (ns : List Int) (ops : List (Int × Rep)) (n : Int) (r : Rep) (m : Int) : left ns (ops ++ [(n, r)]) m = if m = n then false else left ns ops m := by
  unfold left
  rw [first_snoc]
  cases h : first ops m with
  | some q => by_cases e : m = n <;> simp [e]
  | none =>
    by_cases e : n = m
    · simp [e]
    · have e' : ¬ m = n := fun h => e h.symm
      simp [e, e']
theorem left_all (ns : List Int) (r : Rep) (m : Int) : left ns (opsR ns r) m = false := by
  unfold left
  cases hc : ns.contains m with
  | false => rfl
  | true =>
    have hm : m ∈ ns := by simpa using hc
    have : (first (opsR ns r) m).isSome = true := by
      unfold first opsR
      rw [Option.isSome_map, List.find?_isSome]
      exact ⟨(m, r), List.mem_map.2 ⟨m, hm, rfl⟩, by simp⟩
    cases hf : first (opsR ns r) m with
    | none => rw [hf] at this; simp at this
    | some q => rfl
theorem opsR_snoc (ns : List Int) (r : Rep) (k : Nat) (hk : k < ns.length) : opsR (ns.take (k + 1)) r = opsR (ns.take k) r ++ [(ns[k], r)] := by
  unfold opsR
  rw [List.take_succ_eq_append_getElem hk, List.map_append]
  rfl
theorem set_iff {w : World} {b n : Nat} {S S' : Int → Bool} (h : SetAt w b n S) (e : ∀ m, S m = S' m) : SetAt w b n S' := by
  obtain ⟨D, ho, he, ha⟩ := h
  exact ⟨D, ho, he, fun m h0 h1 => by rw [← e m]; exact ha m h0 h1⟩
theorem contains_snoc (ns : List Int) (k : Nat) (hk : k < ns.length) (m : Int) : (if m = ns[k] then true else (ns.take k).contains m) = (ns.take (k + 1)).contains m := by
  rw [List.take_succ_eq_append_getElem hk]
  by_cases e : m = ns[k]
  · rw [if_pos e, e, Bool.eq_iff_iff]; simp only [List.contains_iff_mem, List.mem_append, List.mem_singleton]; simp
  · rw [if_neg e, Bool.eq_iff_iff]; simp only [List.contains_iff_mem, List.mem_append, List.mem_singleton]; simp [e]
theorem yes_len (l : List An) : yesN l ≤ l.length := by unfold yesN; exact List.length_filter_le _ _
theorem comes_left (ns : List Int) (hr : ∀ n ∈ ns, 0 ≤ n ∧ n ≤ 255) (ops : List (Int × Rep)) (z : Nat) (hz : z = 0 ↔ ∀ m : Int, 0 ≤ m → m ≤ 255 → left ns ops m = false) : comes (after ns ops) = ((z : Int) == 0) := by
  rw [Bool.eq_iff_iff, comes_after ns hr ops]
  rw [show (∀ m : Int, 0 ≤ m → m ≤ 255 → takes m (after ns ops) = false) ↔ ∀ m : Int, 0 ≤ m → m ≤ 255 → left ns ops m = false from by simp only [takes_left]]
  rw [← hz, beq_iff_eq]
  omega
set_option maxRecDepth 100000 in
set_option maxHeartbeats 8000000 in
theorem over_row (ns : List Int) (nb off cap : Nat) (u now : Int) (r : Rep) (w : World) (hl : ns.length ≤ 100) (hnb : nb < w.heap.size) (hcell : ∀ i (h : i < ns.length), w.cell? ⟨nb, off + i, none⟩ = some (.int .u8 ns[i])) (hr : ∀ n ∈ ns, 0 ≤ n ∧ n ≤ 255) (hk : r.key.size ≤ 1000) (hbd : r.bd.size ≤ 3000) :
    Calls Try.prog 5 #[.slice (some ⟨nb, off, none⟩) ns.length cap, .int .u64 u, .int .u64 now, repV r] w fun e w' => e = .returned (.bool true) ∧ Below w.heap.size w w' := by
  obtain ⟨has, past, key, p, la, no, kd, fl, ex, bd⟩ := r
  simp only at hk hbd
  have hb0 := below_al (o := .cells #[.bool has, .bool past, .string key, .int .u64 p, .int .u32 la, .int .u8 no, .int .u8 kd, .int .u32 fl, .int .u64 ex, .string bd] 34) (Below.refl w.heap.size w)
  have hnew := new_any ns (some ⟨nb, off, none⟩) cap u (w.alloc (.cells #[.bool has, .bool past, .string key, .int .u64 p, .int .u32 la, .int .u8 no, .int .u8 kd, .int .u32 fl, .int .u64 ex, .string bd] 34)) hl (fun _ => ⟨nb, off, rfl, by rw [World.size_alloc]; omega, fun i h => (hb0.cell (p := ⟨nb, off + i, none⟩) hnb).trans (hcell i h)⟩)
  have HW := Lib.hid hnew
  have HC := Lib.hid hcell
  have HR := Lib.hid hr
  have c1 : decide ((1000 : Int) < (key.size : Int)) = false := decide_eq_false (by omega)
  have c2 : decide ((3000 : Int) < (bd.size : Int)) = false := decide_eq_false (by omega)
  clear hnew hcell hr
  have CT := Lib.hid (fun (b g : Nat) (n : Int) (l : List An) (w : World) (h : Req w b g u l) => take_any b g u n ⟨has, past, key, p, la, no, kd, fl, ex, bd⟩ l w h)
  have hmm := @run_makeMap Try.prog
  obtain ⟨m, hm⟩ : ∃ m, m = ns.length := ⟨_, rfl⟩
  rw [← hm] at hl HW ⊢
  have HM := Lib.hid hm
  have hlm : decide ((100 : Int) < (m : Int)) = false := decide_eq_false (by omega)
  clear hm hk hbd
  unfold repV at CT ⊢
  simp only at CT ⊢
  have ay := at_new w #[.bool has, .bool past, .string key, .int .u64 p, .int .u32 la, .int .u8 no, .int .u8 kd, .int .u32 fl, .int .u64 ex, .string bd] 34
  have hz1 : w.heap.size < (w.alloc (.cells #[.bool has, .bool past, .string key, .int .u64 p, .int .u32 la, .int .u8 no, .int .u8 kd, .int .u32 fl, .int .u64 ex, .string bd] 34)).heap.size := by rw [World.size_alloc]; omega
  go_enter Try.func5, Try.ntmps5
  have y2 := ay.cell 2
  have y9 := ay.cell 9
  go_wp2_with (fail)
  refine (HW.out).mono ?_
  rintro e w1 ⟨g, rfl, hq1, hbg, hg1, hb1⟩
  have HQ1 := Lib.hid hq1
  have HB1 := Lib.hid (below_on hb0 hb1)
  have AY1 := Lib.hid (at_below ay hb1)
  clear hq1 hb1 hb0 ay y2 y9
  generalize (w.alloc (.cells #[.bool has, .bool past, .string key, .int .u64 p, .int .u32 la, .int .u8 no, .int .u8 kd, .int .u32 fl, .int .u64 ex, .string bd] 34)).heap.size = b at *
  clear HW
  go_upto_region 8 with (fail)
  have HS1 := Lib.hid (set_made w1)
  have HQ2 := Lib.hid (req_below HQ1.out (below_al (o := .map #[] 0) (Below.refl _ _)))
  have HB2 := Lib.hid (below_al (o := .map #[] 0) HB1.out)
  have AY2 := Lib.hid (at_alloc (o := .map #[] 0) AY1.out)
  clear HQ1 HB1 AY1 hmm
  generalize w1.alloc (.map #[] 0) = w2 at *
  generalize w1.heap.size = mb at *
  go_loopw [41] (fun v41 w' => ∃ k : Nat, k ≤ m ∧ v41 = .int .i64 k ∧ Hid (SetAt w' mb k (fun j => (ns.take k).contains j)) ∧ Hid (Req w' b g u (newA ns)) ∧ Hid (At w' w.heap.size #[.bool has, .bool past, .string key, .int .u64 p, .int .u32 la, .int .u8 no, .int .u8 kd, .int .u32 fl, .int .u64 ex, .string bd] 34) ∧ Hid (Below w.heap.size w w')) (fun i _ => m - (intOf i).toNat)
  case atStart => exact ⟨0, by omega, rfl, Lib.hid (set_iff HS1.out (fun j => by simp)), HQ2, AY2, HB2⟩
  case round =>
    clear HS1 HQ2 AY2 HB2
    obtain ⟨k, hk, rfl, HS, HQ, AY, HB⟩ := hrel
    by_cases hlt : k < m
    · have hkn : k < ns.length := by rw [← HM.out]; exact hlt
      have e0 := HC.out k hkn
      have hcs := contains_snoc ns k hkn
      obtain ⟨n0, n1⟩ := HR.out ns[k] (List.getElem_mem _)
      have hnw : nb < wr.heap.size := Nat.lt_of_lt_of_le hnb HB.out.size
      rw [← HB.out.cell (p := ⟨nb, off + k, none⟩) hnb] at e0
      generalize ns[k] = n at e0 hcs n0 n1
      have HCS := Lib.hid hcs
      clear hcs
      go_wp2_with (at_mapUpdate; refine wp_set_put _ rfl _ _ _ rfl mb k _ rfl HS.out (by omega) n n0 n1 rfl rfl ?_; intro w4 hs4 hk4)
      have hbm := req_lt HQ.out
      exact ⟨⟨k + 1, by omega, by go_num, Lib.hid (set_iff hs4 HCS.out), Lib.hid (req_chg HQ.out hk4 (by omega) (by omega)), Lib.hid ((hk4.block _ AY.out.lt (by omega)).trans AY.out), Lib.hid (below_chg' HB.out hk4 (by omega))⟩, by simp [intOf]; omega⟩
    · obtain rfl : k = m := by omega
      clear hlt
      go_upto_region 13 with (fail)
      have HS2 := Lib.hid (set_iff (S' := left ns (opsR (ns.take 0) ⟨has, past, key, p, la, no, kd, fl, ex, bd⟩)) HS.out (fun j => by
        show (ns.take k).contains j = left ns (opsR (ns.take 0) _) j
        rw [HM.out, List.take_length]
        simp [left, opsR, first]))
      have HQ2 := Lib.hid (show Req wr b g u (after ns (opsR (ns.take 0) ⟨has, past, key, p, la, no, kd, fl, ex, bd⟩)) from by
        rw [show opsR (ns.take 0) _ = ([] : List (Int × Rep)) from rfl, after_nil]; exact HQ.out)
      clear HS HQ
      go_loopw [50] (fun v50 w' => ∃ i : Nat, i ≤ k ∧ v50 = .int .i64 i ∧ Hid (SetAt w' mb k (left ns (opsR (ns.take i) ⟨has, past, key, p, la, no, kd, fl, ex, bd⟩))) ∧ Hid (Req w' b g u (after ns (opsR (ns.take i) ⟨has, past, key, p, la, no, kd, fl, ex, bd⟩))) ∧ Hid (At w' w.heap.size #[.bool has, .bool past, .string key, .int .u64 p, .int .u32 la, .int .u8 no, .int .u8 kd, .int .u32 fl, .int .u64 ex, .string bd] 34) ∧ Hid (Below w.heap.size w w')) (fun i _ => k - (intOf i).toNat)
      case atStart => exact ⟨0, by omega, rfl, HS2, HQ2, AY, HB⟩
      case round =>
        clear HS2 HQ2 AY HB
        obtain ⟨i, hi, rfl, HS, HQ, AY, HB⟩ := hrel
        by_cases hlt : i < k
        · have hkn : i < ns.length := by rw [← HM.out]; exact hlt
          have e0 := HC.out i hkn
          have hos := opsR_snoc ns ⟨has, past, key, p, la, no, kd, fl, ex, bd⟩ i hkn
          obtain ⟨n0, n1⟩ := HR.out ns[i] (List.getElem_mem _)
          have hnw : nb < wr.heap.size := Nat.lt_of_lt_of_le hnb HB.out.size
          rw [← HB.out.cell (p := ⟨nb, off + i, none⟩) hnb] at e0
          generalize ns[i] = n at e0 hos n0 n1
          have HOS := Lib.hid hos
          clear hos
          generalize opsR (ns.take i) ⟨has, past, key, p, la, no, kd, fl, ex, bd⟩ = ops at HS HQ HOS
          obtain ⟨z, hzl, hzi⟩ := set_len HS.out
          have hcz := comes_left ns HR.out ops z hzi
          have hov := over_any b g u now (after ns ops) wr HQ.out
          have hlk := fun W (h : SetAt W mb k (left ns ops)) => set_look h n0 n1
          have hct := fun W (h : Req W b g u (after ns ops)) => CT.out b g n (after ns ops) W h
          rw [takes_left] at hct
          rw [take_after, ← HOS.out] at hct
          have hst := left_step ns ops n ⟨has, past, key, p, la, no, kd, fl, ex, bd⟩
          rw [← HOS.out] at hst
          rw [hcz] at hov
          have HST := Lib.hid hst
          have CO := Lib.hid hov
          have CT3 := Lib.hid hct
          have HZL := Lib.hid hzl
          have hbm := req_lt HQ.out
          have hsl := set_lt HS.out
          have hgm : g < wr.heap.size := by have := HB.out.size; omega
          clear hst hov hct hzl hzi hcz HOS
          cases hz : ((z : Int) == 0) <;> cases hd : decide (u ≤ now) <;> cases hq : left ns ops n <;> rw [hz, hd] at CO
          all_goals
            simp only [Bool.or_true, Bool.or_false, Bool.true_or, Bool.false_or] at CO
            rw [hq] at CT3
            go_upto_region 17 with (first
              | (go_at_call 14; (with_reducible refine (CO.out).mono ?_); rintro e w2 ⟨rfl, hb2⟩)
              | (at_len; refine wp_set_len _ rfl _ rfl mb rfl z (HZL.out _ (hb2.block mb hsl)) ?_))
            have HQ3 := Lib.hid (req_below (req_below HQ.out hb2) (below_drew (Below.refl _ _)))
            have AY3 := Lib.hid (at_drew (at_below AY.out hb2))
            have HS3 := Lib.hid (set_below (set_below HS.out hb2) (below_drew (Below.refl _ _)))
            have HB3 := Lib.hid (below_drew (below_on HB.out hb2))
            have hgw3 : g < w2.heap.size := by have := hb2.size; omega
            clear HQ AY HS HB hb2
            refine start_ (n := 8) (S := fun w' => w'.cell? ⟨w.heap.size, 0, none⟩ = some (.bool has) ∧ w'.cell? ⟨w.heap.size, 1, none⟩ = some (.bool past) ∧ w'.cell? ⟨w.heap.size, 2, none⟩ = some (.string key) ∧ w'.cell? ⟨w.heap.size, 3, none⟩ = some (.int .u64 p) ∧ w'.cell? ⟨w.heap.size, 4, none⟩ = some (.int .u32 la) ∧ w'.cell? ⟨w.heap.size, 5, none⟩ = some (.int .u8 no) ∧ w'.cell? ⟨w.heap.size, 6, none⟩ = some (.int .u8 kd) ∧ w'.cell? ⟨w.heap.size, 7, none⟩ = some (.int .u32 fl) ∧ w'.cell? ⟨w.heap.size, 8, none⟩ = some (.int .u64 ex) ∧ w'.cell? ⟨w.heap.size, 9, none⟩ = some (.string bd) ∧ (Instr.lookup 26 (.map (some mb)) (.int .u8 n) false).run Try.prog w' = .ok (.bool (left ns ops n)) w') (ds := []) #[false, false, false, false, false, false, false, false] (by kernel_rfl) rfl rfl ⟨(At.cell AY3.out 0).trans rfl, (At.cell AY3.out 1).trans rfl, (At.cell AY3.out 2).trans rfl, (At.cell AY3.out 3).trans rfl, (At.cell AY3.out 4).trans rfl, (At.cell AY3.out 5).trans rfl, (At.cell AY3.out 6).trans rfl, (At.cell AY3.out 7).trans rfl, (At.cell AY3.out 8).trans rfl, (At.cell AY3.out 9).trans rfl, hlk _ HS3.out⟩ (fun hHeld => ?_)
            generalize w2.drew = w3 at AY3 HS3 HQ3 HB3 hHeld ⊢
            refine pure_ (i := 0) (N := some 66) (v := ?_) (a' := ?_) #[true, false, false, false, false, false, false, false] rfl rfl (by kernel_rfl) (fun _ _ _ h => h) (Or.inl ⟨by rfl, ?_⟩) ?_ ?_
            rotate_left
            · intro w'
              go_simp
              with_reducible rfl
            rotate_left
            · simp only [Act.put, List.setIfInBounds_toArray, List.set_cons_zero, List.set_cons_succ, i64_w, i32_w]
              rfl
            refine pure_ (i := 1) (N := some 67) (v := ?_) (a' := ?_) #[true, true, false, false, false, false, false, false] rfl rfl (by kernel_rfl) (fun _ _ _ h => h) (Or.inl ⟨by rfl, ?_⟩) ?_ ?_
            rotate_left
            · intro w'
              go_simp
              with_reducible rfl
            rotate_left
            · simp only [Act.put, List.setIfInBounds_toArray, List.set_cons_zero, List.set_cons_succ, i64_w, i32_w]
              rfl
            refine pure_ (i := 4) (N := some 70) (v := ?_) (a' := ?_) #[true, true, false, false, true, false, false, false] rfl rfl (by kernel_rfl) (fun _ _ _ h => h) (Or.inl ⟨by rfl, ?_⟩) ?_ ?_
            rotate_left
            · intro w'
              go_simp
              with_reducible rfl
            rotate_left
            · simp only [Act.put, List.setIfInBounds_toArray, List.set_cons_zero, List.set_cons_succ, i64_w, i32_w]
              rfl
            refine pure_ (i := 5) (N := some 71) (v := ?_) (a' := ?_) #[true, true, false, false, true, true, false, false] rfl rfl (by kernel_rfl) (fun _ _ _ h => h) (Or.inl ⟨by rfl, ?_⟩) ?_ ?_
            rotate_left
            · intro w'
              go_simp
              with_reducible rfl
            rotate_left
            · simp only [Act.put, List.setIfInBounds_toArray, List.set_cons_zero, List.set_cons_succ, i64_w, i32_w]
              rfl
            refine take_ (i := 2) (N := some 68) (v := ?_) (a' := ?_) #[true, true, true, false, true, true, false, false] rfl rfl (by kernel_rfl) (fun _ _ _ h => h) (Or.inl ⟨by rfl, ?_⟩) hHeld ?_ ?_
            rotate_left
            · rintro w' ⟨s0, s1, s2, s3, s4, s5, s6, s7, s8, s9, s10⟩
              go_simp
              with_reducible rfl
            rotate_left
            · simp only [Act.put, List.setIfInBounds_toArray, List.set_cons_zero, List.set_cons_succ, i64_w, i32_w]
              rfl
            refine take_ (i := 6) (N := some 72) (v := ?_) (a' := ?_) #[true, true, true, false, true, true, true, false] rfl rfl (by kernel_rfl) (fun _ _ _ h => h) (Or.inl ⟨by rfl, ?_⟩) hHeld ?_ ?_
            rotate_left
            · rintro w' ⟨s0, s1, s2, s3, s4, s5, s6, s7, s8, s9, s10⟩
              go_simp
              with_reducible rfl
            rotate_left
            · simp only [Act.put, List.setIfInBounds_toArray, List.set_cons_zero, List.set_cons_succ, i64_w, i32_w]
              rfl
            refine one_ (i := 3) (N := some 69) #[true, true, true, true, true, true, true, false] rfl rfl (by kernel_rfl) (by decide) (fun K hK => ?_)
            refine goes_ Try.func9 (by kernel_rfl) rfl #[.pointer (some ⟨b, 0, none⟩), .int .u8 n, .agg #[.bool has, .bool past, .string key, .int .u64 p, .int .u32 la, .int .u8 no, .int .u8 kd, .int .u32 fl, .int .u64 ex, .string bd]] (by rfl) rfl rfl (by simp only [List.map_toArray, List.map_cons, List.map_nil]; rfl) ?_
            with_reducible refine (CT3.out _ HQ3.out).mono ?_
            rintro e w4 ⟨rfl, hq4, hk4⟩
            refine ⟨_, rfl, ?_⟩
            have AY4 := Lib.hid (show At w4 w.heap.size #[.bool has, .bool past, .string key, .int .u64 p, .int .u32 la, .int .u8 no, .int .u8 kd, .int .u32 fl, .int .u64 ex, .string bd] 34 from (hk4.block _ AY3.out.lt (by omega)).trans AY3.out)
            have HS4 := Lib.hid (set_chg HS3.out hk4 (by omega))
            have HQ4 := Lib.hid hq4
            have HB4 := Lib.hid (below_chg' HB3.out hk4 (by omega))
            clear hq4 hk4 AY3 HS3 HQ3 HB3
            refine hK.out _ _ ⟨(At.cell AY4.out 0).trans rfl, (At.cell AY4.out 1).trans rfl, (At.cell AY4.out 2).trans rfl, (At.cell AY4.out 3).trans rfl, (At.cell AY4.out 4).trans rfl, (At.cell AY4.out 5).trans rfl, (At.cell AY4.out 6).trans rfl, (At.cell AY4.out 7).trans rfl, (At.cell AY4.out 8).trans rfl, (At.cell AY4.out 9).trans rfl, hlk _ HS4.out⟩ (fun hHeld => ?_)
            clear hK K
            refine norm_ (a' := ?_) ?_ ?_
            rotate_left
            · show Act.put _ (some 69) _ = _
              simp only [Act.put, List.setIfInBounds_toArray, List.set_cons_zero, List.set_cons_succ, i64_w, i32_w]
              rfl
            refine pure_ (i := 7) (N := some 73) (v := ?_) (a' := ?_) #[true, true, true, true, true, true, true, true] rfl rfl (by kernel_rfl) (fun _ _ _ h => h) (Or.inl ⟨by rfl, ?_⟩) ?_ ?_
            rotate_left
            · intro w'
              go_simp
              with_reducible rfl
            rotate_left
            · simp only [Act.put, List.setIfInBounds_toArray, List.set_cons_zero, List.set_cons_succ, i64_w, i32_w]
              rfl
            refine done_ (by kernel_rfl) ?_

            go_wp2_with (at_delete; refine wp_set_del _ rfl _ _ rfl mb k _ rfl HS4.out n n0 n1 rfl ?_; intro w6 hs6 hk6)
            exact ⟨⟨i + 1, by omega, by go_num, Lib.hid (set_iff hs6 (fun j => (HST.out j).symm)), Lib.hid (req_chg HQ4.out hk6 (by omega) (by omega)), Lib.hid ((hk6.block _ AY4.out.lt (by omega)).trans AY4.out), Lib.hid (below_chg' HB4.out hk6 (by omega))⟩, by simp [intOf]; omega⟩
        · obtain rfl : i = k := by omega
          clear hlt
          have HQF := Lib.hid HQ.out
          have hco : comes (after ns (opsR (ns.take i) ⟨has, past, key, p, la, no, kd, fl, ex, bd⟩)) = true := by
            rw [comes_after ns HR.out]
            intro j _ _
            rw [takes_left, HM.out, List.take_length]
            exact left_all ns ⟨has, past, key, p, la, no, kd, fl, ex, bd⟩ j
          have hyl := yes_len (after ns (opsR (ns.take i) ⟨has, past, key, p, la, no, kd, fl, ex, bd⟩))
          rw [after_len] at hyl
          have hyl2 := newA_le ns
          rw [← HM.out] at hyl2
          generalize after ns (opsR (ns.take i) ⟨has, past, key, p, la, no, kd, fl, ex, bd⟩) = l at HQF hco hyl
          have o1 := fun W (h : Req W b g u l) => over_any b g u now l W h
          have o2 := fun W (h : Req W b g u l) => over_any b g u 0 l W h
          have o3 := fun W (h : Req W b g u l) => yes_any b g u l W h
          rw [hco, Bool.or_true] at o1 o2
          generalize yesN l = yn at o3 hyl
          have O1 := Lib.hid o1
          have O2 := Lib.hid o2
          have O3 := Lib.hid o3
          have hle : decide ((yn : Int) ≤ (i : Int)) = true := decide_eq_true (by omega)
          have hle2 : decide (yn ≤ i) = true := decide_eq_true (by omega)
          clear o1 o2 o3 hyl hyl2 hco HQ
          go_wp2_with (fail)
          refine (fixed_any _).mono ?_
          rintro e w5 ⟨rfl, hb5⟩
          go_wp2_with (fail)
          refine (O1.out _ (req_below HQF.out hb5)).mono ?_
          rintro e w6 ⟨rfl, hb6⟩
          go_wp2_with (fail)
          refine (O2.out _ (req_below (req_below HQF.out hb5) hb6)).mono ?_
          rintro e w7 ⟨rfl, hb7⟩
          go_wp2_with (fail)
          refine (O3.out _ (req_below (req_below (req_below HQF.out hb5) hb6) hb7)).mono ?_
          rintro e w8 ⟨rfl, hb8⟩
          go_wp2_with (fail)
          go_ret
          exact ⟨rfl, below_on (below_on (below_on (below_on HB.out hb5) hb6) hb7) hb8⟩
end Go.Proofs.Ytnbcbokdbenbiaa.Ask

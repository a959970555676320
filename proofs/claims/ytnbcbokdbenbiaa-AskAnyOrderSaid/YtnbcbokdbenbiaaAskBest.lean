/- Best of a request (own text; written by wip/tools/gen_askbest.py). -/
import Derived.Test.YtnbcbokdbenbiaaAskNew
namespace Go.Proofs.Ytnbcbokdbenbiaa.Ask
open Go.RowKit Go.Proofs.Ytnbcbokdbenbiaa.Mem Go.Lib Go.Proofs.YtnbcbokdbenbiaaW.PrintWords
set_option linter.unusedVariables false
set_option linter.unusedSimpArgs false
/-- What Best goes by. -/
structure BS where
  r : Rep
  live : Bool
  there : Bool
def cmpA (x y : Rep) : Int := Rec.cmpR x.p x.l x.n x.kd x.fl x.ex x.bd y.p y.l y.n y.kd y.fl y.ex y.bd
def bestS (s : BS) (x : An) : BS :=
  if hit x = true then (if (!s.there || decide (0 < cmpA x.r s.r)) = true then ⟨x.r, x.r.kd == 3 && !x.r.past, true⟩ else ⟨s.r, s.live || (cmpA x.r s.r == 0 && (x.r.kd == 3 && !x.r.past)), true⟩) else s
def bs0 : BS := ⟨rep0, false, false⟩
def bestF (l : List An) : BS := l.foldl bestS bs0
theorem best_step (l : List An) (k : Nat) (hk : k < l.length) : bestF (l.take (k + 1)) = bestS (bestF (l.take k)) l[k] := by
  unfold bestF
  rw [List.take_succ_eq_append_getElem hk, List.foldl_append]
  rfl
theorem best_no (l : List An) (h : yesN l = 0) : bestF l = bs0 := by
  unfold yesN at h
  have hf := List.eq_nil_of_length_eq_zero h
  rw [List.filter_eq_nil_iff] at hf
  unfold bestF
  have : ∀ (l : List An), (∀ a ∈ l, ¬hit a = true) → ∀ s, l.foldl bestS s = s := by
    intro l
    induction l with
    | nil => intros; rfl
    | cons x l ih =>
      intro hl s
      rw [List.foldl_cons, show bestS s x = s from by unfold bestS; rw [if_neg (hl x (List.mem_cons_self ..))]]
      exact ih (fun a ha => hl a (List.mem_cons_of_mem _ ha)) s
  exact this l hf bs0
theorem best_there (l : List An) (h : 0 < yesN l) : (bestF l).there = true := by
  have key : ∀ (l : List An) (s : BS), (s.there = true ∨ ∃ a ∈ l, hit a = true) → (l.foldl bestS s).there = true := by
    intro l
    induction l with
    | nil => rintro s (h | ⟨a, ha, _⟩); exact h; simp at ha
    | cons x l ih =>
      intro s hs
      rw [List.foldl_cons]
      apply ih
      by_cases hx : hit x = true
      · left; unfold bestS; rw [if_pos hx]; split <;> rfl
      · have e : bestS s x = s := by unfold bestS; rw [if_neg hx]
        rw [e]
        rcases hs with hs | ⟨a, ha, hh⟩
        · exact .inl hs
        · rcases List.mem_cons.1 ha with rfl | ha
          · exact absurd hh hx
          · exact .inr ⟨a, ha, hh⟩
  unfold yesN at h
  obtain ⟨a, ha⟩ := List.exists_mem_of_length_pos h
  rw [List.mem_filter] at ha
  exact key l bs0 (.inr ⟨a, ha.1, ha.2⟩)
def recA (r : Rep) : Array Value := #[.string r.key, .int .u64 r.p, .int .u32 r.l, .int .u8 r.n, .int .u8 r.kd, .int .u32 r.fl, .int .u64 r.ex, .string r.bd]
def bestV (s : BS) : Value := .tuple #[.agg (recA s.r), .bool s.live, .bool s.there]
set_option maxRecDepth 100000 in
set_option maxHeartbeats 1600000 in
theorem best_none (w : World) : Calls Try.prog 10 #[.pointer none] w fun e w' => e = .returned (bestV bs0) ∧ Below w.heap.size w w' := by
  go_enter Try.func10, Try.ntmps10
  go_wp2_with (fail)
  refine (yes_none _).mono ?_
  rintro e w1 ⟨rfl, hb1⟩
  have hy := at_below (at_new w #[.string ⟨#[]⟩, .int .u64 0, .int .u32 0, .int .u8 0, .int .u8 0, .int .u32 0, .int .u64 0, .string ⟨#[]⟩] 32) hb1
  obtain ⟨y0, y1, y2, y3, y4, y5, y6, y7, f0, f1, f2, f3, f4, f5, f6, f7⟩ := at8 hy
  go_wp2_with (fail)
  have j := at_set8 (v0 := .string ⟨#[]⟩) (v1 := .int .u64 0) (v2 := .int .u32 0) (v3 := .int .u8 0) (v4 := .int .u8 0) (v5 := .int .u32 0) (v6 := .int .u64 0) (v7 := .string ⟨#[]⟩) hy
  have hb2 := below_set8 (v0 := .string ⟨#[]⟩) (v1 := .int .u64 0) (v2 := .int .u32 0) (v3 := .int .u8 0) (v4 := .int .u8 0) (v5 := .int .u32 0) (v6 := .int .u64 0) (v7 := .string ⟨#[]⟩) (below_on (below_al (o := .cells #[.string ⟨#[]⟩, .int .u64 0, .int .u32 0, .int .u8 0, .int .u8 0, .int .u32 0, .int .u64 0, .string ⟨#[]⟩] 32) (Below.refl w.heap.size w)) hb1) (Nat.le_refl _)
  generalize World.setCell _ _ _ = w2 at j hb2 ⊢
  clear y0 y1 y2 y3 y4 y5 y6 y7 f0 f1 f2 f3 f4 f5 f6 f7
  refine bodyPost_ret (results_ctt (p := 2) (u := 3) (v := 4) (ty := 32) (fn := Try.f10) ?h0 _ _ w.heap.size 32 #[.string ⟨#[]⟩, .int .u64 0, .int .u32 0, .int .u8 0, .int .u8 0, .int .u32 0, .int .u64 0, .string ⟨#[]⟩] (0, 0) _ ?h1 ?h2 Try.underlying32 rfl (by kernel_rfl)) ?h3 ?h4
  case h0 => rfl
  case h1 => rfl
  case h2 => exact j
  case h3 => rfl
  case h4 => exact ⟨rfl, hb2⟩
set_option maxRecDepth 100000 in
set_option maxHeartbeats 1600000 in
theorem best_zero (b g : Nat) (u : Int) (l : List An) (w : World) (h : Req w b g u l) (h0 : yesN l = 0) : Calls Try.prog 10 #[.pointer (some ⟨b, 0, none⟩)] w fun e w' => e = .returned (bestV bs0) ∧ Below w.heap.size w w' := by
  have hy := yes_any b g u l (w.alloc (.cells #[.string ⟨#[]⟩, .int .u64 0, .int .u32 0, .int .u8 0, .int .u8 0, .int .u32 0, .int .u64 0, .string ⟨#[]⟩] 32)) (req_below h (below_al (Below.refl _ _)))
  rw [h0] at hy
  have HY := Lib.hid hy
  clear hy h
  go_enter Try.func10, Try.ntmps10
  go_wp2_with (fail)
  refine (HY.out).mono ?_
  rintro e w1 ⟨rfl, hb1⟩
  have hy := at_below (at_new w #[.string ⟨#[]⟩, .int .u64 0, .int .u32 0, .int .u8 0, .int .u8 0, .int .u32 0, .int .u64 0, .string ⟨#[]⟩] 32) hb1
  obtain ⟨y0, y1, y2, y3, y4, y5, y6, y7, f0, f1, f2, f3, f4, f5, f6, f7⟩ := at8 hy
  go_wp2_with (fail)
  have j := at_set8 (v0 := .string ⟨#[]⟩) (v1 := .int .u64 0) (v2 := .int .u32 0) (v3 := .int .u8 0) (v4 := .int .u8 0) (v5 := .int .u32 0) (v6 := .int .u64 0) (v7 := .string ⟨#[]⟩) hy
  have hb2 := below_set8 (v0 := .string ⟨#[]⟩) (v1 := .int .u64 0) (v2 := .int .u32 0) (v3 := .int .u8 0) (v4 := .int .u8 0) (v5 := .int .u32 0) (v6 := .int .u64 0) (v7 := .string ⟨#[]⟩) (below_on (below_al (o := .cells #[.string ⟨#[]⟩, .int .u64 0, .int .u32 0, .int .u8 0, .int .u8 0, .int .u32 0, .int .u64 0, .string ⟨#[]⟩] 32) (Below.refl w.heap.size w)) hb1) (Nat.le_refl _)
  generalize World.setCell _ _ _ = w2 at j hb2 ⊢
  clear y0 y1 y2 y3 y4 y5 y6 y7 f0 f1 f2 f3 f4 f5 f6 f7
  refine bodyPost_ret (results_ctt (p := 2) (u := 3) (v := 4) (ty := 32) (fn := Try.f10) ?h0 _ _ w.heap.size 32 #[.string ⟨#[]⟩, .int .u64 0, .int .u32 0, .int .u8 0, .int .u8 0, .int .u32 0, .int .u64 0, .string ⟨#[]⟩] (0, 0) _ ?h1 ?h2 Try.underlying32 rfl (by kernel_rfl)) ?h3 ?h4
  case h0 => rfl
  case h1 => rfl
  case h2 => exact j
  case h3 => rfl
  case h4 => exact ⟨rfl, hb2⟩
theorem bestS_hit (s : BS) (x : An) (h : hit x = true) : bestS s x = if (!s.there || decide (0 < cmpA x.r s.r)) = true then ⟨x.r, x.r.kd == 3 && !x.r.past, true⟩ else ⟨s.r, s.live || (cmpA x.r s.r == 0 && (x.r.kd == 3 && !x.r.past)), true⟩ := by unfold bestS; rw [if_pos h]
theorem bestS_no (s : BS) (x : An) (h : hit x = false) : bestS s x = s := by unfold bestS; rw [if_neg (by rw [h]; simp)]
set_option maxRecDepth 100000 in
set_option maxHeartbeats 8000000 in
theorem best_row (b g cap : Nat) (u : Int) (l : List An) (w : World) (ha : At w b #[.slice (some ⟨g, 0, none⟩) l.length cap, .int .u64 u] 51) (hr : Row w g (.slice (some ⟨g, 0, none⟩) l.length cap) l) (hg : g < w.heap.size) (hl : l.length ≤ 100) (h0 : 0 < yesN l)
    (hy : ∀ w', Below w.heap.size w w' → Calls Try.prog 11 #[.pointer (some ⟨b, 0, none⟩)] w' fun e w2 => e = .returned (.int .i64 (yesN l)) ∧ Below w'.heap.size w' w2) :
    Calls Try.prog 10 #[.pointer (some ⟨b, 0, none⟩)] w fun e w' => e = .returned (bestV (bestF l)) ∧ Below w.heap.size w w' := by
  have hbw := ha.lt
  have HTH := Lib.hid (best_there l h0)
  have HR := Lib.hid hr
  have HA := Lib.hid ha
  have HY := Lib.hid (hy _ (below_al (o := .cells #[.string ⟨#[]⟩, .int .u64 0, .int .u32 0, .int .u8 0, .int .u8 0, .int .u32 0, .int .u64 0, .string ⟨#[]⟩] 32) (Below.refl _ _)))
  have HS := Lib.hid (fun k => best_step l k)
  have HE := Lib.hid (show bestF (l.take l.length) = bestF l from by rw [List.take_length])
  clear hr ha hy
  obtain ⟨n, hn⟩ : ∃ n, n = l.length := ⟨_, rfl⟩
  rw [← hn] at hl HE
  have HN := Lib.hid hn
  clear hn
  generalize yesN l = m at h0 HY
  have hm : ((m : Int) == 0) = false := beq_eq_false_iff_ne.2 (by omega)
  go_enter Try.func10, Try.ntmps10
  go_wp2_with (fail)
  refine (HY.out).mono ?_
  rintro e w1 ⟨rfl, hb1⟩
  have A0 := at_below (at_new w #[.string ⟨#[]⟩, .int .u64 0, .int .u32 0, .int .u8 0, .int .u8 0, .int .u32 0, .int .u64 0, .string ⟨#[]⟩] 32) hb1
  have hB1 := below_on (below_al (o := .cells #[.string ⟨#[]⟩, .int .u64 0, .int .u32 0, .int .u8 0, .int .u8 0, .int .u32 0, .int .u64 0, .string ⟨#[]⟩] 32) (Below.refl w.heap.size w)) hb1
  have z1 : w.heap.size < w1.heap.size := A0.lt
  go_upto_region 4 with (fail)
  have A1 := at_new w1 #[.string ⟨#[]⟩, .int .u64 0, .int .u32 0, .int .u8 0, .int .u8 0, .int .u32 0, .int .u64 0, .string ⟨#[]⟩] 32
  have A0' := at_alloc (o := .cells #[.string ⟨#[]⟩, .int .u64 0, .int .u32 0, .int .u8 0, .int .u8 0, .int .u32 0, .int .u64 0, .string ⟨#[]⟩] 32) A0
  have hB2 := below_al (o := .cells #[.string ⟨#[]⟩, .int .u64 0, .int .u32 0, .int .u8 0, .int .u8 0, .int .u32 0, .int .u64 0, .string ⟨#[]⟩] 32) hB1
  have c0 := (at_below HA.out hB2).cell 0
  rw [← HN.out] at c0
  clear A0 hB1 hb1
  generalize w1.alloc (.cells #[.string ⟨#[]⟩, .int .u64 0, .int .u32 0, .int .u8 0, .int .u8 0, .int .u32 0, .int .u64 0, .string ⟨#[]⟩] 32) = w2 at *
  generalize w1.heap.size = y1 at *
  go_wp2_with (fail)
  go_loopw [6, 7, 21] (fun v6 v7 v21 w' => ∃ (k : Nat) (s : BS), k ≤ n ∧ v21 = .int .i64 k ∧ v6 = .bool s.live ∧ v7 = .bool s.there ∧ Hid (s = bestF (l.take k)) ∧ Hid (At w' y1 (recA s.r) 32) ∧ Hid (At w' w.heap.size #[.string ⟨#[]⟩, .int .u64 0, .int .u32 0, .int .u8 0, .int .u8 0, .int .u32 0, .int .u64 0, .string ⟨#[]⟩] 32) ∧ Hid (Below w.heap.size w w')) (fun _ _ i _ => n - (intOf i).toNat)
  case atStart => exact ⟨0, bs0, by omega, rfl, rfl, rfl, Lib.hid rfl, Lib.hid A1, Lib.hid A0', Lib.hid hB2⟩
  case round =>
    clear A1 A0' hB2
    obtain ⟨k, s, hk, rfl, rfl, rfl, HK, HT, HZ, HB⟩ := hrel
    by_cases hlt : k < n
    · obtain ⟨e0, e1, e2, e3, e4, e5, e6, e7, e8, e9, e10, e11⟩ := row_at (row_below HR.out HB.out) k (by rw [← HN.out]; exact hlt)
      have hgw : g < wr.heap.size := Nat.lt_of_lt_of_le hg HB.out.size
      have hs := HS.out k (by rw [← HN.out]; exact hlt)
      rw [← HK.out] at hs
      generalize l[k] = x at e0 e1 e2 e3 e4 e5 e6 e7 e8 e9 e10 e11 hs
      obtain ⟨node, come, has, past, key, p, la, no, kd, fl, ex, bd⟩ := x
      simp only at e0 e1 e2 e3 e4 e5 e6 e7 e8 e9 e10 e11
      have HS2 := Lib.hid hs
      clear hs
      have zt := HT.out.lt
      go_upto_region 8 with (fail)
      replace HB := Lib.hid (below_al (o := .cells #[.int .u8 node, .bool come, .bool has, .bool past, .string key, .int .u64 p, .int .u32 la, .int .u8 no, .int .u8 kd, .int .u32 fl, .int .u64 ex, .string bd] 54) HB.out)
      have HX := Lib.hid (at_new wr #[.int .u8 node, .bool come, .bool has, .bool past, .string key, .int .u64 p, .int .u32 la, .int .u8 no, .int .u8 kd, .int .u32 fl, .int .u64 ex, .string bd] 54)
      replace HT := Lib.hid (at_alloc (o := .cells #[.int .u8 node, .bool come, .bool has, .bool past, .string key, .int .u64 p, .int .u32 la, .int .u8 no, .int .u8 kd, .int .u32 fl, .int .u64 ex, .string bd] 54) HT.out)
      replace HZ := Lib.hid (at_alloc (o := .cells #[.int .u8 node, .bool come, .bool has, .bool past, .string key, .int .u64 p, .int .u32 la, .int .u8 no, .int .u8 kd, .int .u32 fl, .int .u64 ex, .string bd] 54) HZ.out)
      clear e0 e1 e2 e3 e4 e5 e6 e7 e8 e9 e10 e11
      generalize wr.alloc (.cells #[.int .u8 node, .bool come, .bool has, .bool past, .string key, .int .u64 p, .int .u32 la, .int .u8 no, .int .u8 kd, .int .u32 fl, .int .u64 ex, .string bd] 54) = w3 at *
      generalize wr.heap.size = y at *
      have x1 := HX.out.cell 1
      have x2 := HX.out.cell 2
      have x3 := HX.out.cell 3
      have x4 := HX.out.cell 4
      have x5 := HX.out.cell 5
      have x6 := HX.out.cell 6
      have x7 := HX.out.cell 7
      have x8 := HX.out.cell 8
      have x9 := HX.out.cell 9
      have x10 := HX.out.cell 10
      have x11 := HX.out.cell 11
      cases come with
      | false =>
        have hs2 := Lib.hid (show s = bestF (l.take (k + 1)) from by rw [HS2.out]; rfl)
        clear x2 x3 x4 x5 x6 x7 x8 x9 x10 x11
        go_wp2_with (fail)
        exact ⟨⟨k + 1, s, by omega, by go_num, rfl, rfl, hs2, HT, HZ, HB⟩, by simp [intOf]; omega⟩
      | true =>
        cases has with
        | false =>
          have hs2 := Lib.hid (show s = bestF (l.take (k + 1)) from by rw [HS2.out]; rfl)
          clear x3 x4 x5 x6 x7 x8 x9 x10 x11
          go_wp2_with (fail)
          exact ⟨⟨k + 1, s, by omega, by go_num, rfl, rfl, hs2, HT, HZ, HB⟩, by simp [intOf]; omega⟩
        | true =>
          rw [bestS_hit _ _ rfl] at HS2
          have zy := HX.out.lt
          go_upto_region 10 with (fail)
          replace HB := Lib.hid (below_al (o := .cells #[.bool true, .bool past, .string key, .int .u64 p, .int .u32 la, .int .u8 no, .int .u8 kd, .int .u32 fl, .int .u64 ex, .string bd] 34) HB.out)
          have HW := Lib.hid (at_new w3 #[.bool true, .bool past, .string key, .int .u64 p, .int .u32 la, .int .u8 no, .int .u8 kd, .int .u32 fl, .int .u64 ex, .string bd] 34)
          replace HT := Lib.hid (at_alloc (o := .cells #[.bool true, .bool past, .string key, .int .u64 p, .int .u32 la, .int .u8 no, .int .u8 kd, .int .u32 fl, .int .u64 ex, .string bd] 34) HT.out)
          replace HZ := Lib.hid (at_alloc (o := .cells #[.bool true, .bool past, .string key, .int .u64 p, .int .u32 la, .int .u8 no, .int .u8 kd, .int .u32 fl, .int .u64 ex, .string bd] 34) HZ.out)
          have zt2 : y1 < w3.heap.size := by omega
          clear x1 x2 x3 x4 x5 x6 x7 x8 x9 x10 x11 HX
          generalize w3.alloc (.cells #[.bool true, .bool past, .string key, .int .u64 p, .int .u32 la, .int .u8 no, .int .u8 kd, .int .u32 fl, .int .u64 ex, .string bd] 34) = w4 at *
          generalize w3.heap.size = yr at *
          have r2 := HW.out.cell 2
          have r3 := HW.out.cell 3
          have r4 := HW.out.cell 4
          have r5 := HW.out.cell 5
          have r6 := HW.out.cell 6
          have r7 := HW.out.cell 7
          have r8 := HW.out.cell 8
          have r9 := HW.out.cell 9
          obtain ⟨⟨bhas, bpast, bkey, bp, bl, bn, bkd, bfl, bex, bbd⟩, live, there⟩ := s
          unfold recA at HT
          simp only at HT HS2
          obtain ⟨t0, t1, t2, t3, t4, t5, t6, t7, -⟩ := at8 HT.out
          have CC := Lib.hid (fun w => Rec.rcompare_any key p la no kd fl ex bd bkey bp bl bn bkd bfl bex bbd w)
          unfold cmpA at HS2
          simp only at HS2
          generalize Rec.cmpR p la no kd fl ex bd bp bl bn bkd bfl bex bbd = c at CC HS2
          go_upto_region 11 with (go_at_call 17; (with_reducible refine (CC.out _).mono ?_); rintro e w5 ⟨rfl, hb5⟩)
          clear r2 r3 r4 r5 r6 r7 r8 r9 t0 t1 t2 t3 t4 t5 t6 t7
          replace HB := Lib.hid (below_on HB.out hb5)
          replace HW := Lib.hid (at_below HW.out hb5)
          replace HT := Lib.hid (at_below HT.out hb5)
          replace HZ := Lib.hid (at_below HZ.out hb5)
          clear hb5
          obtain ⟨t0, t1, t2, t3, t4, t5, t6, t7, f0, f1, f2, f3, f4, f5, f6, f7⟩ := at8 HT.out
          have r1 := HW.out.cell 1
          have r2 := HW.out.cell 2
          have r3 := HW.out.cell 3
          have r4 := HW.out.cell 4
          have r5 := HW.out.cell 5
          have r6 := HW.out.cell 6
          have r7 := HW.out.cell 7
          have r8 := HW.out.cell 8
          have r9 := HW.out.cell 9
          cases there with
          | false =>
            cases hkd : (kd == 3) with
            | false =>
              have hs2 := Lib.hid (show (⟨⟨true, past, key, p, la, no, kd, fl, ex, bd⟩, false, true⟩ : BS) = bestF (l.take (k + 1)) from by rw [HS2.out]; simp [hkd])
              go_wp2_with (fail)
              exact ⟨⟨k + 1, ⟨⟨true, past, key, p, la, no, kd, fl, ex, bd⟩, false, true⟩, by omega, by go_num, rfl, rfl, hs2, Lib.hid (at_set8 (v0 := .string key) (v1 := .int .u64 p) (v2 := .int .u32 la) (v3 := .int .u8 no) (v4 := .int .u8 kd) (v5 := .int .u32 fl) (v6 := .int .u64 ex) (v7 := .string bd) HT.out), Lib.hid (at_set8_ne HZ.out (by omega)), Lib.hid (below_set8 HB.out (by omega))⟩, by simp [intOf]; omega⟩
            | true =>
              cases past with
              | true =>
                have hs2 := Lib.hid (show (⟨⟨true, true, key, p, la, no, kd, fl, ex, bd⟩, false, true⟩ : BS) = bestF (l.take (k + 1)) from by rw [HS2.out]; simp [hkd])
                go_wp2_with (fail)
                exact ⟨⟨k + 1, ⟨⟨true, true, key, p, la, no, kd, fl, ex, bd⟩, false, true⟩, by omega, by go_num, rfl, rfl, hs2, Lib.hid (at_set8 (v0 := .string key) (v1 := .int .u64 p) (v2 := .int .u32 la) (v3 := .int .u8 no) (v4 := .int .u8 kd) (v5 := .int .u32 fl) (v6 := .int .u64 ex) (v7 := .string bd) HT.out), Lib.hid (at_set8_ne HZ.out (by omega)), Lib.hid (below_set8 HB.out (by omega))⟩, by simp [intOf]; omega⟩
              | false =>
                have hs2 := Lib.hid (show (⟨⟨true, false, key, p, la, no, kd, fl, ex, bd⟩, true, true⟩ : BS) = bestF (l.take (k + 1)) from by rw [HS2.out]; simp [hkd])
                go_wp2_with (fail)
                exact ⟨⟨k + 1, ⟨⟨true, false, key, p, la, no, kd, fl, ex, bd⟩, true, true⟩, by omega, by go_num, rfl, rfl, hs2, Lib.hid (at_set8 (v0 := .string key) (v1 := .int .u64 p) (v2 := .int .u32 la) (v3 := .int .u8 no) (v4 := .int .u8 kd) (v5 := .int .u32 fl) (v6 := .int .u64 ex) (v7 := .string bd) HT.out), Lib.hid (at_set8_ne HZ.out (by omega)), Lib.hid (below_set8 HB.out (by omega))⟩, by simp [intOf]; omega⟩
          | true =>
            cases hc : decide (0 < c) with
            | true =>
              cases hkd : (kd == 3) with
              | false =>
                have hs2 := Lib.hid (show (⟨⟨true, past, key, p, la, no, kd, fl, ex, bd⟩, false, true⟩ : BS) = bestF (l.take (k + 1)) from by rw [HS2.out]; simp [of_decide_eq_true hc, hkd])
                go_wp2_with (fail)
                exact ⟨⟨k + 1, ⟨⟨true, past, key, p, la, no, kd, fl, ex, bd⟩, false, true⟩, by omega, by go_num, rfl, rfl, hs2, Lib.hid (at_set8 (v0 := .string key) (v1 := .int .u64 p) (v2 := .int .u32 la) (v3 := .int .u8 no) (v4 := .int .u8 kd) (v5 := .int .u32 fl) (v6 := .int .u64 ex) (v7 := .string bd) HT.out), Lib.hid (at_set8_ne HZ.out (by omega)), Lib.hid (below_set8 HB.out (by omega))⟩, by simp [intOf]; omega⟩
              | true =>
                cases past with
                | true =>
                  have hs2 := Lib.hid (show (⟨⟨true, true, key, p, la, no, kd, fl, ex, bd⟩, false, true⟩ : BS) = bestF (l.take (k + 1)) from by rw [HS2.out]; simp [of_decide_eq_true hc, hkd])
                  go_wp2_with (fail)
                  exact ⟨⟨k + 1, ⟨⟨true, true, key, p, la, no, kd, fl, ex, bd⟩, false, true⟩, by omega, by go_num, rfl, rfl, hs2, Lib.hid (at_set8 (v0 := .string key) (v1 := .int .u64 p) (v2 := .int .u32 la) (v3 := .int .u8 no) (v4 := .int .u8 kd) (v5 := .int .u32 fl) (v6 := .int .u64 ex) (v7 := .string bd) HT.out), Lib.hid (at_set8_ne HZ.out (by omega)), Lib.hid (below_set8 HB.out (by omega))⟩, by simp [intOf]; omega⟩
                | false =>
                  have hs2 := Lib.hid (show (⟨⟨true, false, key, p, la, no, kd, fl, ex, bd⟩, true, true⟩ : BS) = bestF (l.take (k + 1)) from by rw [HS2.out]; simp [of_decide_eq_true hc, hkd])
                  go_wp2_with (fail)
                  exact ⟨⟨k + 1, ⟨⟨true, false, key, p, la, no, kd, fl, ex, bd⟩, true, true⟩, by omega, by go_num, rfl, rfl, hs2, Lib.hid (at_set8 (v0 := .string key) (v1 := .int .u64 p) (v2 := .int .u32 la) (v3 := .int .u8 no) (v4 := .int .u8 kd) (v5 := .int .u32 fl) (v6 := .int .u64 ex) (v7 := .string bd) HT.out), Lib.hid (at_set8_ne HZ.out (by omega)), Lib.hid (below_set8 HB.out (by omega))⟩, by simp [intOf]; omega⟩
            | false =>
              have hcn : ¬ (0 < c) := of_decide_eq_false hc
              cases live with
              | true =>
                have hs2 := Lib.hid (show (⟨⟨bhas, bpast, bkey, bp, bl, bn, bkd, bfl, bex, bbd⟩, true, true⟩ : BS) = bestF (l.take (k + 1)) from by rw [HS2.out]; simp [hcn])
                go_wp2_with (fail)
                exact ⟨⟨k + 1, ⟨⟨bhas, bpast, bkey, bp, bl, bn, bkd, bfl, bex, bbd⟩, true, true⟩, by omega, by go_num, rfl, rfl, hs2, HT, HZ, HB⟩, by simp [intOf]; omega⟩
              | false =>
                cases hz : (c == 0) with
                | false =>
                  have hs2 := Lib.hid (show (⟨⟨bhas, bpast, bkey, bp, bl, bn, bkd, bfl, bex, bbd⟩, false, true⟩ : BS) = bestF (l.take (k + 1)) from by rw [HS2.out]; simp [hcn, hz])
                  go_wp2_with (fail)
                  exact ⟨⟨k + 1, ⟨⟨bhas, bpast, bkey, bp, bl, bn, bkd, bfl, bex, bbd⟩, false, true⟩, by omega, by go_num, rfl, rfl, hs2, HT, HZ, HB⟩, by simp [intOf]; omega⟩
                | true =>
                  cases hkd : (kd == 3) with
                  | false =>
                    have hs2 := Lib.hid (show (⟨⟨bhas, bpast, bkey, bp, bl, bn, bkd, bfl, bex, bbd⟩, false, true⟩ : BS) = bestF (l.take (k + 1)) from by rw [HS2.out]; simp [hcn, hz, hkd])
                    go_wp2_with (fail)
                    exact ⟨⟨k + 1, ⟨⟨bhas, bpast, bkey, bp, bl, bn, bkd, bfl, bex, bbd⟩, false, true⟩, by omega, by go_num, rfl, rfl, hs2, HT, HZ, HB⟩, by simp [intOf]; omega⟩
                  | true =>
                    cases past with
                    | true =>
                      have hs2 := Lib.hid (show (⟨⟨bhas, bpast, bkey, bp, bl, bn, bkd, bfl, bex, bbd⟩, false, true⟩ : BS) = bestF (l.take (k + 1)) from by rw [HS2.out]; simp [hcn, hz, hkd])
                      go_wp2_with (fail)
                      exact ⟨⟨k + 1, ⟨⟨bhas, bpast, bkey, bp, bl, bn, bkd, bfl, bex, bbd⟩, false, true⟩, by omega, by go_num, rfl, rfl, hs2, HT, HZ, HB⟩, by simp [intOf]; omega⟩
                    | false =>
                      have hs2 := Lib.hid (show (⟨⟨bhas, bpast, bkey, bp, bl, bn, bkd, bfl, bex, bbd⟩, true, true⟩ : BS) = bestF (l.take (k + 1)) from by rw [HS2.out]; simp [hcn, hz, hkd])
                      go_wp2_with (fail)
                      exact ⟨⟨k + 1, ⟨⟨bhas, bpast, bkey, bp, bl, bn, bkd, bfl, bex, bbd⟩, true, true⟩, by omega, by go_num, rfl, rfl, hs2, HT, HZ, HB⟩, by simp [intOf]; omega⟩
    · obtain rfl : k = n := by omega
      have hr : s = bestF l := HK.out.trans HE.out
      have HR2 := Lib.hid hr
      obtain ⟨t0, t1, t2, t3, t4, t5, t6, t7, -⟩ := at8 (show At wr y1 #[.string s.r.key, .int .u64 s.r.p, .int .u32 s.r.l, .int .u8 s.r.n, .int .u8 s.r.kd, .int .u32 s.r.fl, .int .u64 s.r.ex, .string s.r.bd] 32 from HT.out)
      obtain ⟨q0, q1, q2, q3, q4, q5, q6, q7, f0, f1, f2, f3, f4, f5, f6, f7⟩ := at8 HZ.out
      clear hr hlt
      go_wp2_with (fail)
      have j := at_set8 (v0 := .string s.r.key) (v1 := .int .u64 s.r.p) (v2 := .int .u32 s.r.l) (v3 := .int .u8 s.r.n) (v4 := .int .u8 s.r.kd) (v5 := .int .u32 s.r.fl) (v6 := .int .u64 s.r.ex) (v7 := .string s.r.bd) HZ.out
      have hb2 := below_set8 (v0 := .string s.r.key) (v1 := .int .u64 s.r.p) (v2 := .int .u32 s.r.l) (v3 := .int .u8 s.r.n) (v4 := .int .u8 s.r.kd) (v5 := .int .u32 s.r.fl) (v6 := .int .u64 s.r.ex) (v7 := .string s.r.bd) HB.out (Nat.le_refl _)
      generalize World.setCell _ _ _ = w6 at j hb2 ⊢
      rw [← HR2.out]
      refine bodyPost_ret (results_ctt (p := 2) (u := 3) (v := 4) (ty := 32) (fn := Try.f10) ?h0 _ _ w.heap.size 32 #[.string s.r.key, .int .u64 s.r.p, .int .u32 s.r.l, .int .u8 s.r.n, .int .u8 s.r.kd, .int .u32 s.r.fl, .int .u64 s.r.ex, .string s.r.bd] (0, 0) _ ?h1 ?h2 Try.underlying32 rfl (by kernel_rfl)) ?h3 ?h4
      case h0 => rfl
      case h1 => rfl
      case h2 => exact j
      case h3 => rfl
      case h4 =>
        refine ⟨?_, hb2⟩
        have ht := HTH.out
        rw [← HR2.out] at ht
        unfold bestV
        rw [ht]
        rfl
theorem best_any (b g : Nat) (u : Int) (l : List An) (w : World) (h : Req w b g u l) : Calls Try.prog 10 #[.pointer (some ⟨b, 0, none⟩)] w fun e w' => e = .returned (bestV (bestF l)) ∧ Below w.heap.size w w' := by
  by_cases h0 : yesN l = 0
  · rw [best_no l h0]
    exact best_zero b g u l w h h0
  · have hq := h
    obtain ⟨v, ha, hr, hbg, hl⟩ := h
    have h2 := hr
    rcases hr with ⟨rfl, rfl⟩ | ⟨cap, rest, rfl, h1, hc, hx⟩
    · exact absurd rfl h0
    · exact best_row b g cap u l w ha h2 hx.lt hl (by omega) (fun w' hb => yes_any b g u l w' (req_below hq hb))
end Go.Proofs.Ytnbcbokdbenbiaa.Ask

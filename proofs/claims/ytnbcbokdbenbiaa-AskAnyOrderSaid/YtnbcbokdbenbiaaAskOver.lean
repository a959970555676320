/- Over and Yes of a request (own text). -/
import Derived.Test.YtnbcbokdbenbiaaAskHas
namespace Go.Proofs.Ytnbcbokdbenbiaa.Ask
open Go.RowKit Go.Proofs.Ytnbcbokdbenbiaa.Mem Go.Lib
set_option linter.unusedVariables false
set_option linter.unusedSimpArgs false
theorem comes_any (l : List An) : (!(l.any fun x => !x.come)) = comes l := by
  unfold comes
  induction l with
  | nil => rfl
  | cons x l ih => rw [List.any_cons, List.all_cons, Bool.not_or, ih, Bool.not_not]
set_option maxHeartbeats 800000 in
theorem over_any (b g : Nat) (u now : Int) (l : List An) (w : World) (h : Req w b g u l) :
    Calls Try.prog 14 #[.pointer (some ⟨b, 0, none⟩), .int .u64 now] w fun e w' => e = .returned (.bool (decide (u ≤ now) || comes l)) ∧ Below w.heap.size w w' := by
  obtain ⟨v, ha, hr, hbg, hl⟩ := h
  obtain ⟨A, cap, hv, -⟩ := row_slice hr
  subst hv
  have ef := enters_of Try.func18 (by kernel_rfl) rfl
  have hc := contains_any 18 #[] ef (fun x => !x.come) g _ l w hr (by omega) (pred_come w)
  have c0 := ha.cell 0
  have c1 := ha.cell 1
  have HC := Lib.hid hc
  clear hc hr ef
  rw [← comes_any]
  generalize l.any (fun x => !x.come) = q at HC ⊢
  cases hd : decide (u ≤ now) with
  | true =>
    go_enter Try.func14, Try.ntmps14
    go_wp2_with (fail)
    go_ret
    exact ⟨rfl, Below.refl _ _⟩
  | false =>
    go_enter Try.func14, Try.ntmps14
    go_wp2_with (fail)
    refine (HC.out).mono ?_
    rintro e w1 ⟨rfl, hb1⟩
    go_wp2_with (fail)
    go_ret
    exact ⟨rfl, hb1⟩
theorem comes_nil : comes [] = true := rfl
def hit (x : An) : Bool := x.come && x.r.has
def yesN (l : List An) : Nat := (l.filter hit).length
theorem yes_snoc (l : List An) (k : Nat) (hk : k < l.length) : yesN (l.take (k + 1)) = yesN (l.take k) + (if hit l[k] = true then 1 else 0) := by
  unfold yesN
  rw [List.take_succ_eq_append_getElem hk, List.filter_append, List.length_append]
  by_cases h : hit l[k] = true
  · rw [if_pos h]; simp [h]
  · rw [if_neg h]; simp [h]
theorem yes_le (l : List An) (k : Nat) : yesN (l.take k) ≤ k := by
  unfold yesN
  refine Nat.le_trans (List.length_filter_le _ _) ?_
  rw [List.length_take]; omega
set_option maxHeartbeats 1600000 in
theorem yes_row (b g cap : Nat) (u : Int) (l : List An) (w : World) (ha : At w b #[.slice (some ⟨g, 0, none⟩) l.length cap, .int .u64 u] 51) (hr : Row w g (.slice (some ⟨g, 0, none⟩) l.length cap) l) (hg : g < w.heap.size) (hl : l.length ≤ 100) :
    Calls Try.prog 11 #[.pointer (some ⟨b, 0, none⟩)] w fun e w' => e = .returned (.int .i64 (yesN l)) ∧ Below w.heap.size w w' := by
  have c0 := ha.cell 0
  have HR := Lib.hid hr
  have HS := Lib.hid (fun k => yes_snoc l k)
  have HL := Lib.hid (fun k => yes_le l k)
  have HE := Lib.hid (show yesN (l.take l.length) = yesN l from by rw [List.take_length])
  clear hr ha
  obtain ⟨n, hn⟩ : ∃ n, n = l.length := ⟨_, rfl⟩
  rw [← hn] at c0 hl HE
  have HN := Lib.hid hn
  clear hn
  go_enter Try.func11, Try.ntmps11
  go_wp2_with (fail)
  go_loopw [3, 13] (fun v3 v13 w' => ∃ k m : Nat, k ≤ n ∧ v13 = .int .i64 k ∧ v3 = .int .i64 m ∧ m ≤ k ∧ Hid (m = yesN (l.take k)) ∧ Hid (Below w.heap.size w w')) (fun _ i _ => n - (intOf i).toNat)
  case atStart => exact ⟨0, 0, by omega, rfl, rfl, Nat.le_refl _, Lib.hid rfl, Lib.hid (Below.refl _ _)⟩
  case round =>
    obtain ⟨k, m, hk, rfl, rfl, hm, HM, HB⟩ := hrel
    by_cases hlt : k < n
    · obtain ⟨e0, e1, e2, e3, e4, e5, e6, e7, e8, e9, e10, e11⟩ := row_at (row_below HR.out HB.out) k (by rw [← HN.out]; exact hlt)
      have hgw : g < wr.heap.size := Nat.lt_of_lt_of_le hg HB.out.size
      have hs := HS.out k (by rw [← HN.out]; exact hlt)
      have h2 := HL.out (k + 1)
      generalize l[k] = x at e0 e1 e2 e3 e4 e5 e6 e7 e8 e9 e10 e11 hs
      obtain ⟨node, come, has, past, key, p, la, no, kd, fl, ex, bd⟩ := x
      simp only at e0 e1 e2 e3 e4 e5 e6 e7 e8 e9 e10 e11
      have HS2 := Lib.hid hs
      have HL2 := Lib.hid h2
      clear hs h2
      go_upto_region 6 with (fail)
      replace HB := Lib.hid (below_al (o := .cells #[.int .u8 node, .bool come, .bool has, .bool past, .string key, .int .u64 p, .int .u32 la, .int .u8 no, .int .u8 kd, .int .u32 fl, .int .u64 ex, .string bd] 54) HB.out)
      have HX := Lib.hid (at_new wr #[.int .u8 node, .bool come, .bool has, .bool past, .string key, .int .u64 p, .int .u32 la, .int .u8 no, .int .u8 kd, .int .u32 fl, .int .u64 ex, .string bd] 54)
      clear e0 e1 e2 e3 e4 e5 e6 e7 e8 e9 e10 e11
      generalize wr.alloc (.cells #[.int .u8 node, .bool come, .bool has, .bool past, .string key, .int .u64 p, .int .u32 la, .int .u8 no, .int .u8 kd, .int .u32 fl, .int .u64 ex, .string bd] 54) = w2 at *
      generalize wr.heap.size = y at *
      have x1 := HX.out.cell 1
      have x2 := HX.out.cell 2
      cases come with
      | false =>
        have hm2 := Lib.hid (show m = yesN (l.take (k + 1)) from by rw [HS2.out, HM.out]; rfl)
        go_wp2_with (fail)
        exact ⟨⟨k + 1, m, by omega, by go_num, rfl, by omega, hm2, HB⟩, by simp [intOf]; omega⟩
      | true =>
        cases has with
        | false =>
          have hm2 := Lib.hid (show m = yesN (l.take (k + 1)) from by rw [HS2.out, HM.out]; rfl)
          go_wp2_with (fail)
          exact ⟨⟨k + 1, m, by omega, by go_num, rfl, by omega, hm2, HB⟩, by simp [intOf]; omega⟩
        | true =>
          have hm2 := Lib.hid (show m + 1 = yesN (l.take (k + 1)) from by rw [HS2.out, HM.out]; rfl)
          have vm : IntKind.i64.wrap ((m : Int) + 1) = (m : Int) + 1 := IntWalk.i64_in _ ⟨by omega, by omega⟩
          go_wp2_with (fail)
          exact ⟨⟨k + 1, m + 1, by omega, by go_num, by go_num, by omega, hm2, HB⟩, by simp [intOf]; omega⟩
    · obtain rfl : k = n := by omega
      have hr : m = yesN l := HM.out.trans HE.out
      clear hlt
      go_wp2_with (fail)
      go_ret
      exact ⟨by rw [hr]; rfl, HB.out⟩
set_option maxHeartbeats 800000 in
theorem yes_nil (b : Nat) (u : Int) (w : World) (ha : At w b #[.slice none 0 0, .int .u64 u] 51) :
    Calls Try.prog 11 #[.pointer (some ⟨b, 0, none⟩)] w fun e w' => e = .returned (.int .i64 0) ∧ Below w.heap.size w w' := by
  have c0 := ha.cell 0
  clear ha
  go_enter Try.func11, Try.ntmps11
  go_wp2_with (fail)
  go_rounds 1
  go_wp2
  go_ret
  exact ⟨rfl, Below.refl _ _⟩
set_option maxHeartbeats 800000 in
theorem yes_none (w : World) :
    Calls Try.prog 11 #[.pointer none] w fun e w' => e = .returned (.int .i64 0) ∧ Below w.heap.size w w' := by
  go_enter Try.func11, Try.ntmps11
  go_wp2
  go_ret
  exact ⟨rfl, Below.refl _ _⟩
set_option maxHeartbeats 800000 in
theorem over_none (now : Int) (w : World) :
    Calls Try.prog 14 #[.pointer none, .int .u64 now] w fun e w' => e = .returned (.bool true) ∧ Below w.heap.size w w' := by
  go_enter Try.func14, Try.ntmps14
  go_wp2
  go_ret
  exact ⟨rfl, Below.refl _ _⟩
theorem yes_any (b g : Nat) (u : Int) (l : List An) (w : World) (h : Req w b g u l) :
    Calls Try.prog 11 #[.pointer (some ⟨b, 0, none⟩)] w fun e w' => e = .returned (.int .i64 (yesN l)) ∧ Below w.heap.size w w' := by
  obtain ⟨v, ha, hr, hbg, hl⟩ := h
  have h2 := hr
  rcases hr with ⟨rfl, rfl⟩ | ⟨cap, rest, rfl, h0, hc, hx⟩
  · exact yes_nil b u w ha
  · exact yes_row b g cap u l w ha h2 hx.lt hl
end Go.Proofs.Ytnbcbokdbenbiaa.Ask

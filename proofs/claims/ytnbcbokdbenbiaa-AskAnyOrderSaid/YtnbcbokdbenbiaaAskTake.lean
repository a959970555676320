/- Take of a request (own text). -/
import Derived.Test.YtnbcbokdbenbiaaAskOver
import Derived.Deep.Cut
import Derived.RegionTactic
namespace Go.Proofs.Ytnbcbokdbenbiaa.Ask
open Go.RowKit Go.Proofs.Ytnbcbokdbenbiaa.Mem Go.Lib Go.Proofs.YtnbcbokdbenbiaaW.PrintWords
set_option linter.unusedVariables false
set_option linter.unusedSimpArgs false
def repV (r : Rep) : Value := .agg #[.bool r.has, .bool r.past, .string r.key, .int .u64 r.p, .int .u32 r.l, .int .u8 r.n, .int .u8 r.kd, .int .u32 r.fl, .int .u64 r.ex, .string r.bd]
set_option maxHeartbeats 800000 in
theorem take_nil (b : Nat) (u n : Int) (r : Rep) (w : World) (ha : At w b #[.slice none 0 0, .int .u64 u] 51) :
    Calls Try.prog 9 #[.pointer (some ⟨b, 0, none⟩), .int .u8 n, repV r] w fun e w' => e = .returned (.bool false) ∧ Below w.heap.size w w' := by
  have c0 := ha.cell 0
  have hb := ha.lt
  clear ha
  unfold repV
  go_enter Try.func9, Try.ntmps9
  go_wp2_with (fail)
  go_rounds 1
  go_wp2
  go_ret
  exact ⟨rfl, below_al (Below.refl _ _)⟩
set_option maxHeartbeats 800000 in
theorem take_no (n : Int) (r : Rep) (w : World) :
    Calls Try.prog 9 #[.pointer none, .int .u8 n, repV r] w fun e w' => e = .returned (.bool false) ∧ Below w.heap.size w w' := by
  unfold repV
  go_enter Try.func9, Try.ntmps9
  go_wp2
  go_ret
  exact ⟨rfl, below_al (Below.refl _ _)⟩
set_option maxRecDepth 100000 in
set_option maxHeartbeats 3200000 in
theorem take_row (b g cap : Nat) (u n : Int) (r : Rep) (l : List An) (w : World) (ha : At w b #[.slice (some ⟨g, 0, none⟩) l.length cap, .int .u64 u] 51) (hr : Row w g (.slice (some ⟨g, 0, none⟩) l.length cap) l) (hg : g < w.heap.size) (hbg : b < g) (hl : l.length ≤ 100) :
    Calls Try.prog 9 #[.pointer (some ⟨b, 0, none⟩), .int .u8 n, repV r] w fun e w' => e = .returned (.bool (takes n l)) ∧ Row w' g (.slice (some ⟨g, 0, none⟩) l.length cap) (take n r l) ∧ Chg (· = g) w w' := by
  have c0' := (at_alloc (o := .cells #[.bool r.has, .bool r.past, .string r.key, .int .u64 r.p, .int .u32 r.l, .int .u8 r.n, .int .u8 r.kd, .int .u32 r.fl, .int .u64 r.ex, .string r.bd] 34) ha).cell 0
  have HR := Lib.hid hr
  have HA := Lib.hid ha
  have HT := Lib.hid (fun k hk hx hb => take_at n r l k hk hx hb)
  have HT2 := Lib.hid (fun k hk hx => takes_at n l k hk hx)
  have HT3 := Lib.hid (fun hb => takes_no n l hb)
  have HT4 := Lib.hid (take_none n r l)
  have HP := Lib.hid (fun (w : World) (h : Row w g (.slice (some ⟨g, 0, none⟩) l.length cap) l) k hk => row_take h k hk r)
  generalize hq : takes n l = q at *
  generalize hl2 : take n r l = l2 at *
  clear hr hq hl2
  have c0 := ha.cell 0
  clear ha
  obtain ⟨m, hm⟩ : ∃ m, m = l.length := ⟨_, rfl⟩
  rw [← hm] at c0 c0' hl
  have HM := Lib.hid hm
  have hml : 0 < l.length ∨ True := .inr trivial
  obtain ⟨has, past, key, p, la, no, kd, fl, ex, bd⟩ := r
  unfold repV
  simp only at c0' HP
  rw [← hm]
  clear hm
  go_enter Try.func9, Try.ntmps9
  go_wp2_with (fail)
  have hy := at_new w #[.bool has, .bool past, .string key, .int .u64 p, .int .u32 la, .int .u8 no, .int .u8 kd, .int .u32 fl, .int .u64 ex, .string bd] 34
  have HA1 := Lib.hid (at_alloc (o := .cells #[.bool has, .bool past, .string key, .int .u64 p, .int .u32 la, .int .u8 no, .int .u8 kd, .int .u32 fl, .int .u64 ex, .string bd] 34) HA.out)
  have HB1 := Lib.hid (below_al (o := .cells #[.bool has, .bool past, .string key, .int .u64 p, .int .u32 la, .int .u8 no, .int .u8 kd, .int .u32 fl, .int .u64 ex, .string bd] 34) (Below.refl w.heap.size w))
  have hgw : g < (w.alloc (.cells #[.bool has, .bool past, .string key, .int .u64 p, .int .u32 la, .int .u8 no, .int .u8 kd, .int .u32 fl, .int .u64 ex, .string bd] 34)).heap.size := by rw [World.size_alloc]; omega
  generalize w.alloc (.cells #[.bool has, .bool past, .string key, .int .u64 p, .int .u32 la, .int .u8 no, .int .u8 kd, .int .u32 fl, .int .u64 ex, .string bd] 34) = w1 at *
  go_loopw [16] (fun v16 w' => ∃ k : Nat, k ≤ m ∧ v16 = .int .i64 k ∧ Hid (∀ j (hj : j < k) (hjl : j < l.length), waits n l[j] = false) ∧ w' = w1) (fun i _ => m - (intOf i).toNat)
  case atStart => exact ⟨0, by omega, rfl, Lib.hid (fun j hj => by omega), rfl⟩
  case round =>
    obtain ⟨k, hk, rfl, HW, rfl⟩ := hrel
    have HR1 := Lib.hid (row_below HR.out HB1.out)
    by_cases hlt : k < m
    · have hkl : k < l.length := by rw [← HM.out]; exact hlt
      obtain ⟨e0, e1, -⟩ := row_at HR1.out k hkl
      have hwt : waits n l[k] = (l[k].node == n && !l[k].come) := rfl
      have f1 := row_free HR1.out k hkl (k * 12 + 1)
      generalize hx : l[k] = x at e0 e1 hwt
      have HX := Lib.hid hx
      obtain ⟨node, come, rr⟩ := x
      simp only at e0 e1 hwt
      clear hx
      have f2 := row_free HR1.out k hkl (k * 12 + 2)
      have f3 := row_free HR1.out k hkl (k * 12 + 3)
      have f4 := row_free HR1.out k hkl (k * 12 + 4)
      have f5 := row_free HR1.out k hkl (k * 12 + 5)
      have f6 := row_free HR1.out k hkl (k * 12 + 6)
      have f7 := row_free HR1.out k hkl (k * 12 + 7)
      have f8 := row_free HR1.out k hkl (k * 12 + 8)
      have f9 := row_free HR1.out k hkl (k * 12 + 9)
      have f10 := row_free HR1.out k hkl (k * 12 + 10)
      have f11 := row_free HR1.out k hkl (k * 12 + 11)
      obtain ⟨-, -, e2, e3, e4, e5, e6, e7, e8, e9, e10, e11⟩ := row_at HR1.out k hkl
      rw [HX.out] at e2 e3 e4 e5 e6 e7 e8 e9 e10 e11
      simp only at e2 e3 e4 e5 e6 e7 e8 e9 e10 e11
      have y0 := hy.cell 0
      have y1 := hy.cell 1
      have y2 := hy.cell 2
      have y3 := hy.cell 3
      have y4 := hy.cell 4
      have y5 := hy.cell 5
      have y6 := hy.cell 6
      have y7 := hy.cell 7
      have y8 := hy.cell 8
      have y9 := hy.cell 9
      cases hn : (node == n) with
      | false =>
        have HW2 := Lib.hid (show ∀ j (hj : j < k + 1) (hjl : j < l.length), waits n l[j] = false from fun j hj hjl => by
          by_cases ej : j = k
          · subst ej; rw [HX.out]; simp [waits, hn]
          · exact HW.out j (by omega) hjl)
        clear e2 e3 e4 e5 e6 e7 e8 e9 e10 e11 f1 f2 f3 f4 f5 f6 f7 f8 f9 f10 f11 y0 y1 y2 y3 y4 y5 y6 y7 y8 y9 hwt HX
        go_wp2_with (fail)
        exact ⟨⟨k + 1, by omega, by go_num, HW2, trivial⟩, by simp [intOf]; omega⟩
      | true =>
        cases come with
        | true =>
          have HW2 := Lib.hid (show ∀ j (hj : j < k + 1) (hjl : j < l.length), waits n l[j] = false from fun j hj hjl => by
            by_cases ej : j = k
            · subst ej; rw [HX.out]; simp [waits]
            · exact HW.out j (by omega) hjl)
          clear e2 e3 e4 e5 e6 e7 e8 e9 e10 e11 f1 f2 f3 f4 f5 f6 f7 f8 f9 f10 f11 y0 y1 y2 y3 y4 y5 y6 y7 y8 y9 hwt HX
          go_wp2_with (fail)
          exact ⟨⟨k + 1, by omega, by go_num, HW2, trivial⟩, by simp [intOf]; omega⟩
        | false =>
          have hw1 : waits n l[k] = true := by rw [HX.out]; simp [waits, hn]
          have h1 := HT.out k hkl hw1 (fun j hj => HW.out j hj (by omega))
          have h2 := HT2.out k hkl hw1
          have H1 := Lib.hid h1
          have H2 := Lib.hid h2
          clear h1 h2 hwt HX
          go_wp2_with (fail)
          go_region
          all_goals
            go_wp2_with (fail)
            go_ret
            refine ⟨by rw [H2.out]; rfl, ?_, ?_⟩
            · rw [H1.out, HM.out]
              with_reducible apply row_drew
              with_reducible refine HP.out _ (row_below HR1.out ?_) k hkl (k * 12) rfl
              repeat (first | (with_reducible exact Below.refl _ _) | (with_reducible apply pw_below_drewN) | (with_reducible apply below_drew))
            · with_reducible apply chg_drew
              with_reducible refine chg_set11 (chg_below (chg_below (chg_refl (· = g) w) HB1.out) ?_)
              repeat (first | (with_reducible exact Below.refl _ _) | (with_reducible apply pw_below_drewN) | (with_reducible apply below_drew))
    · obtain rfl : k = m := by omega
      have hq : q = false := HT3.out (fun j hj => HW.out j (by rw [HM.out]; exact hj) hj)
      have hl2 : l2 = l := HT4.out hq
      have hqq := Lib.hid hq
      have hll := Lib.hid hl2
      clear hq hl2
      go_wp2_with (fail)
      go_ret
      refine ⟨by rw [hqq.out]; rfl, ?_, chg_below (chg_refl _ w) HB1.out⟩
      rw [hll.out, HM.out]
      exact HR1.out
theorem row_lt {w : World} {g : Nat} {v : Value} {l : List An} (h : Row w g v l) (h0 : 0 < l.length) : g < w.heap.size := by
  obtain ⟨cap, _, _, hg⟩ := row_val h h0
  exact hg
theorem take_any (b g : Nat) (u n : Int) (r : Rep) (l : List An) (w : World) (h : Req w b g u l) :
    Calls Try.prog 9 #[.pointer (some ⟨b, 0, none⟩), .int .u8 n, repV r] w fun e w' => e = .returned (.bool (takes n l)) ∧ Req w' b g u (take n r l) ∧ Chg (· = g) w w' := by
  obtain ⟨v, ha, hr, hbg, hl⟩ := h
  have h2 := hr
  rcases hr with ⟨rfl, rfl⟩ | ⟨cap, rest, rfl, h0, hc, hx⟩
  · refine (take_nil b u n r w ha).mono ?_
    rintro e w' ⟨rfl, hb⟩
    exact ⟨rfl, ⟨_, at_below ha hb, .inl ⟨rfl, rfl⟩, fun h => by simp [take] at h, by simp [take]⟩, chg_below (chg_refl _ w) hb⟩
  · refine (take_row b g cap u n r l w ha h2 hx.lt (hbg h0) hl).mono ?_
    rintro e w' ⟨rfl, hr', hk⟩
    exact ⟨rfl, ⟨_, (hk.block b ha.lt (Nat.ne_of_lt (hbg h0))).trans ha, hr', fun _ => hbg h0, by rw [take_len]; exact hl⟩, hk⟩
end Go.Proofs.Ytnbcbokdbenbiaa.Ask

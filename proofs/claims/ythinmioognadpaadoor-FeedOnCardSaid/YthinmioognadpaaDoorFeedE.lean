/- Merged of FeedLBounded (own text; wip/tools/merge.py). -/
import Derived.Test.YthinmioognadpaaDoorFeedD
import Derived.Test.YthinmioognadpaaDoorOpenB
/- FeedBounded answers true (own text; written by wip/tools/gen_feedbounded.py). -/
namespace Go.Proofs.YthinmioognadpaaDoor.Feed
open Go.RowKit Go.Proofs.YthinmioognadpaaDoor.Mem Go.Proofs.YthinmioognadpaaDoorW.PrintWords Go.Proofs.YthinmioognadpaaDoorW.PrintLast Go.Proofs.YthinmioognadpaaDoorW.PrintMore
set_option linter.unusedVariables false
set_option linter.unusedSimpArgs false
/-- A row of texts, as the row hands it over. -/
def StrRow (w : World) (A : Option Addr) (len cap : Nat) : Prop := len ≤ cap ∧ cap ≤ maxLen ∧ (0 < len → ∃ b off, A = some ⟨b, off, none⟩ ∧ b < w.heap.size ∧ ∀ i, i < len → ∃ cs, Opener.IsString cs ∧ cs.length = 1 ∧ ∀ j, j < 1 → w.cell? ⟨b, off + (i * 1 + j), none⟩ = cs[j]?)
theorem strRow_at {w : World} {A : Option Addr} {len cap : Nat} (h : StrRow w A len cap) (k : Nat) (hk : k < len) : ∃ b off str, A = some ⟨b, off, none⟩ ∧ b < w.heap.size ∧ w.cell? ⟨b, off + k, none⟩ = some (.string str) := by
  obtain ⟨b, off, e, hb, hc⟩ := h.2.2 (by omega)
  obtain ⟨cs, ⟨str, rfl⟩, _, hcell⟩ := hc k hk
  refine ⟨b, off, str, e, hb, ?_⟩
  have := hcell 0 (by omega)
  rw [Nat.mul_one, Nat.add_zero] at this
  exact this
theorem take_ver (b : Nat) (s : St) (hv : Value) (w : World) (h : FeedAt w b s hv) (hi : Inv s) (ho : s.over = true) : Calls Tryd.prog 10 #[.pointer (some ⟨b, 0, none⟩), .string ⟨#[118, 101, 114, 115, 105, 111, 110, 13, 10]⟩] w fun e w' => ∃ A c hv', e = .returned (.slice A 0 c) ∧ FeedAt w' b s hv' ∧ Turn b hv w w' ∧ Own hv hv' w := by
  refine (take_any b s hv _ w h hi (by decide)).mono ?_
  rw [takeA_over ho]
  rintro e w' ⟨v, hv', rfl, ho, hf, hi, ht, hw, _⟩
  obtain ⟨A, c, rfl⟩ := Kd.R_slice ho.out
  exact ⟨A, c, hv', rfl, hf.out, ht.out, hw.out⟩
set_option maxRecDepth 100000 in
set_option maxHeartbeats 3200000 in
theorem bounded_walk (A : Option Addr) (len cap : Nat) (w : World) (h : StrRow w A len cap) :
    Calls Tryd.prog 5 #[.slice A len cap] w fun e w' => e = .returned (.bool true) ∧ Below w.heap.size w w' := by
  have HR := Lib.hid h
  have CN := Lib.hid (fun w => new_any w)
  have CF := Lib.hid (fun w => fixed_any w)
  have CT := Lib.hid (fun w => take_nil ⟨#[118, 101, 114, 115, 105, 111, 110, 10]⟩ w)
  have CH := Lib.hid (fun w => held_nil w)
  have CO := Lib.hid (fun w => over_nil w)
  have hlen : len ≤ 9223372036854775807 := by have h1 := h.1; have h2 := h.2.1; unfold maxLen at h2; omega
  clear h
  go_enter Tryd.func5, Tryd.ntmps5
  go_upto_region 2 with ((with_reducible refine (CN.out _).mono ?_); rintro e w1 ⟨rfl, hf1, hb1⟩)
  have HF1 := Lib.hid hf1
  have HB1 := Lib.hid hb1
  have hs1 := hb1.size
  clear hf1 hb1
  go_wp2_with (fail)
  go_loopw [4, 11] (fun v4 v11 w' => ∃ (k : Nat) (n : Int) (sk : St) (hvk : Value), k ≤ len ∧ v11 = .int .i64 k ∧ v4 = .int .i64 n ∧ Hid (0 ≤ n ∧ n ≤ 20000) ∧ Hid (FeedAt w' w.heap.size sk hvk) ∧ Hid (Inv sk) ∧ Hid (Below w.heap.size w w') ∧ Hid (New hvk w)) (fun _ i _ => len - (intOf i).toNat)
  case atStart => exact ⟨0, 0, st0, .slice none 0 0, Nat.zero_le _, rfl, rfl, Lib.hid ⟨by omega, by omega⟩, HF1, Lib.hid inv0, HB1, Lib.hid (new_nil w)⟩
  case round =>
    clear HF1 HB1
    obtain ⟨k, n, sk, hvk, hk, rfl, rfl, HN, HF, HI, HB, HNW⟩ := hrel
    by_cases hlt : k < len
    · obtain ⟨nb, off, str, rfl, hnb, e0⟩ := strRow_at HR.out k hlt
      have hnw : nb < wr.heap.size := Nat.lt_of_lt_of_le hnb HB.out.size
      rw [← HB.out.cell (p := ⟨nb, off + k, none⟩) hnb] at e0
      obtain ⟨y, hy⟩ : ∃ y : Int, y = IntKind.i64.wrap (n + (str.size : Int)) := ⟨_, rfl⟩
      have vy := hy.symm
      have HY := Lib.hid hy
      clear hy
      have vk : IntKind.i64.wrap ((k : Int) + 1) = (k : Int) + 1 := IntWalk.i64_in _ ⟨by omega, by omega⟩
      cases h1 : decide ((20000 : Int) < y) with
      | true =>
        go_wp2_with (first
          | (go_at_call 7; (with_reducible refine (CF.out _).mono ?_); rintro e w2 ⟨rfl, hb2⟩)
          | (go_at_call 10; (with_reducible refine (CT.out _).mono ?_); rintro e w3 ⟨rfl, hb3⟩)
          | (go_at_call 12; (with_reducible refine (CH.out _).mono ?_); rintro e w4 ⟨rfl, hb4⟩)
          | (go_at_call 13; (with_reducible refine (CO.out _).mono ?_); rintro e w5 ⟨rfl, hb5⟩))
        go_ret
        exact ⟨rfl, by repeat (first | (with_reducible exact HB.out) | exact below_step (below_step (below_step (below_step HB.out hb2) hb3) hb4) hb5 | apply pw_below_drewN | apply below_drew)⟩
      | false =>
        cases h2 : decide ((20000 : Int) < (str.size : Int)) with
        | true =>
          go_wp2_with (first
            | (go_at_call 7; (with_reducible refine (CF.out _).mono ?_); rintro e w2 ⟨rfl, hb2⟩)
            | (go_at_call 10; (with_reducible refine (CT.out _).mono ?_); rintro e w3 ⟨rfl, hb3⟩)
            | (go_at_call 12; (with_reducible refine (CH.out _).mono ?_); rintro e w4 ⟨rfl, hb4⟩)
            | (go_at_call 13; (with_reducible refine (CO.out _).mono ?_); rintro e w5 ⟨rfl, hb5⟩))
          go_ret
          exact ⟨rfl, by repeat (first | (with_reducible exact HB.out) | exact below_step (below_step (below_step (below_step HB.out hb2) hb3) hb4) hb5 | apply pw_below_drewN | apply below_drew)⟩
        | false =>
          have hss : str.size ≤ 20000 := by have := of_decide_eq_false h2; omega
          have HYN := Lib.hid (show 0 ≤ y ∧ y ≤ 20000 from by
            have := of_decide_eq_false h1
            have h8 := HN.out
            have h9 := HY.out
            rw [IntWalk.i64_in _ ⟨by omega, by omega⟩] at h9
            omega)
          have TA := Lib.hid (fun W (hf : FeedAt W w.heap.size sk hvk) => take_any w.heap.size sk hvk str W hf HI.out (by omega))
          obtain ⟨RR, hRR⟩ : ∃ r, r = takeA sk [] (bytesL str) := ⟨_, rfl⟩
          rw [← hRR] at TA
          clear hRR hss
          go_upto_region 9 with ((with_reducible refine (TA.out _ ?hF).mono ?_); (case hF => exact HF.out); rintro e w2 ⟨v, hv2, rfl, HO2, HF2, HI2, HT2, HW2, -⟩; obtain ⟨vA, vc, ev⟩ := Kd.R_slice HO2.out; subst ev)
          have HB2 := Lib.hid (below_turn HB.out HT2.out (Nat.le_refl _) HNW.out)
          have HN2 := Lib.hid (new_own HNW.out HW2.out HB.out.size)
          clear HT2 HW2 HO2 TA HF HB HNW HI e0 h1 h2 HY vy
          have CH2 := Lib.hid (fun W (hf : FeedAt W w.heap.size RR.1 hv2) => held_any w.heap.size RR.1 hv2 W hf)
          have CO2 := Lib.hid (fun W (hf : FeedAt W w.heap.size RR.1 hv2) => over_any w.heap.size RR.1 hv2 W hf)
          obtain ⟨m, hm⟩ : ∃ m : Int, m = (RR.1.held.length : Int) := ⟨_, rfl⟩
          rw [← hm] at CH2
          have hmm : 0 ≤ m ∧ m ≤ 2048 := by have := HI2.out.2.1; omega
          have d1 : decide (m < (0 : Int)) = false := decide_eq_false (by omega)
          have d2 : decide ((2048 : Int) < m) = false := decide_eq_false (by omega)
          clear hm hmm
          have HI2' := HI2
          cases hov : RR.1.over with
          | false =>
            rw [hov] at CO2
            clear hov
            go_wp2_with (first
              | (go_at_call 12; (with_reducible refine (CH2.out _ ?hF).mono ?_); (case hF => exact HF2.out); rintro e w3 ⟨rfl, hb3⟩; replace HF2 := Lib.hid (feed_below HF2.out hb3); replace HB2 := Lib.hid (below_step HB2.out hb3); clear hb3)
              | (go_at_call 13; (with_reducible refine (CO2.out _ ?hF).mono ?_); (case hF => exact HF2.out); rintro e w3 ⟨rfl, hb3⟩; replace HF2 := Lib.hid (feed_below HF2.out hb3); replace HB2 := Lib.hid (below_step HB2.out hb3); clear hb3))
            exact ⟨⟨k + 1, y, RR.1, hv2, by omega, by go_num, rfl, HYN, HF2, HI2, HB2, HN2⟩, by simp [intOf]; omega⟩
          | true =>
            have TV := Lib.hid (fun W hvx (hf : FeedAt W w.heap.size RR.1 hvx) => take_ver w.heap.size RR.1 hvx W hf HI2.out hov)
            rw [hov] at CO2
            clear hov
            go_wp2_with (first
              | (go_at_call 12; (with_reducible refine (CH2.out _ ?hF).mono ?_); (case hF => exact HF2.out); rintro e w3 ⟨rfl, hb3⟩; replace HF2 := Lib.hid (feed_below HF2.out hb3); replace HB2 := Lib.hid (below_step HB2.out hb3); clear hb3)
              | (go_at_call 13; (with_reducible refine (CO2.out _ ?hF).mono ?_); (case hF => exact HF2.out); rintro e w3 ⟨rfl, hb3⟩; replace HF2 := Lib.hid (feed_below HF2.out hb3); replace HB2 := Lib.hid (below_step HB2.out hb3); clear hb3)
              | (go_at_call 10; (with_reducible refine (TV.out _ hv2 ?hF).mono ?_); (case hF => exact HF2.out); rintro e w3 ⟨A9, c9, hv9, rfl, hf9, ht9, ho9⟩; have HF9 := Lib.hid hf9; have HB9 := Lib.hid (below_turn HB2.out ht9 (Nat.le_refl _) HN2.out); have HN9 := Lib.hid (new_own HN2.out ho9 HB2.out.size); clear hf9 ht9 ho9))
            exact ⟨⟨k + 1, y, RR.1, hv9, by omega, by go_num, rfl, HYN, HF9, HI2, HB9, HN9⟩, by simp [intOf]; omega⟩
    · obtain rfl : k = len := by omega
      go_wp2_with (first
        | (go_at_call 7; (with_reducible refine (CF.out _).mono ?_); rintro e w2 ⟨rfl, hb2⟩)
        | (go_at_call 10; (with_reducible refine (CT.out _).mono ?_); rintro e w3 ⟨rfl, hb3⟩)
        | (go_at_call 12; (with_reducible refine (CH.out _).mono ?_); rintro e w4 ⟨rfl, hb4⟩)
        | (go_at_call 13; (with_reducible refine (CO.out _).mono ?_); rintro e w5 ⟨rfl, hb5⟩))
      go_ret
      exact ⟨rfl, by repeat (first | (with_reducible exact HB.out) | exact below_step (below_step (below_step (below_step HB.out hb2) hb3) hb4) hb5 | apply pw_below_drewN | apply below_drew)⟩
end Go.Proofs.YthinmioognadpaaDoor.Feed

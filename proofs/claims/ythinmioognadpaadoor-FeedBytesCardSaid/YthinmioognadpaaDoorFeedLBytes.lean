/- FeedBytes answers true (own text; written by wip/tools/gen_feedbytes.py). -/
import Derived.Test.YthinmioognadpaaDoorFeedS
import Derived.Test.YthinmioognadpaaDoorFeedLike
namespace Go.Proofs.YthinmioognadpaaDoor.Feed
open Go.RowKit Go.Proofs.YthinmioognadpaaDoor.Mem Go.Proofs.YthinmioognadpaaDoorW.PrintWords Go.Proofs.YthinmioognadpaaDoorW.PrintLast Go.Proofs.YthinmioognadpaaDoorW.PrintMore
set_option linter.unusedVariables false
set_option linter.unusedSimpArgs false
set_option maxRecDepth 100000 in
set_option maxHeartbeats 3200000 in
theorem bytes_great (str : ByteArray) (w : World) (h : 5000 < str.size) :
    Calls Tryd.prog 4 #[.string str] w fun e w' => e = .returned (.bool true) ∧ Below w.heap.size w w' := by
  have c1 : decide ((5000 : Int) < (str.size : Int)) = true := decide_eq_true (by omega)
  clear h
  go_enter Tryd.func4, Tryd.ntmps4
  go_wp2_with ((with_reducible refine (fixed_any _).mono ?_); rintro e w1 ⟨rfl, hb1⟩)
  go_ret
  exact ⟨rfl, hb1⟩
set_option maxRecDepth 100000 in
set_option maxHeartbeats 3200000 in
theorem bytes_small (str : ByteArray) (w : World) (h : str.size ≤ 5000) :
    Calls Tryd.prog 4 #[.string str] w fun e w' => e = .returned (.bool true) ∧ Below w.heap.size w w' := by
  have cs : decide ((5000 : Int) < (str.size : Int)) = false := decide_eq_false (by omega)
  have HS := Lib.hid h
  have CN := Lib.hid (fun w => new_any w)
  have CF := Lib.hid (fun w => fixed_any w)
  have hsz : (str.size : Int) ≤ 5000 := by omega
  clear h
  go_enter Tryd.func4, Tryd.ntmps4
  have TK := Lib.hid trivial
  go_upto_region 4 with (first
    | (clear TK; (with_reducible refine (CN.out _).mono ?_); rintro e w1 ⟨rfl, hf1, hb1⟩)
    | ((with_reducible refine (CN.out _).mono ?_); rintro e w2 ⟨rfl, hf2, hb2⟩))
  have HF := Lib.hid (feed_below hf1 hb2)
  have HG := Lib.hid hf2
  have HB := Lib.hid (below_step hb1 hb2)
  have hlt := feed_lt hf1
  generalize w1.heap.size = bg at *
  have hbg : w.heap.size ≠ bg := by omega
  have hbw : w.heap.size ≤ bg := by omega
  clear hf1 hb1 hf2 hb2 hlt
  obtain ⟨R, hR⟩ : ∃ R, R = takeA st0 [] (bytesL str) := ⟨_, rfl⟩
  have HR := Lib.hid hR
  clear hR
  go_wp2_with (fail)
  go_loopw [5, 15] (fun v5 v15 w' => ∃ (k : Nat) (sk : St) (hvk : Value) (l : List Cm), k ≤ str.size ∧ v15 = .int .i64 k ∧ Hid (takeA sk l ((bytesL str).drop k) = R) ∧ Hid (l.length ≤ k) ∧ Hid (Inv sk) ∧ Hid (FeedAt w' w.heap.size sk hvk) ∧ Hid (FeedAt w' bg st0 (.slice none 0 0)) ∧ Hid (Out w' v5 l) ∧ Hid (Below w.heap.size w w') ∧ Hid (New hvk w) ∧ Hid (New v5 w)) (fun _ i _ => str.size - (intOf i).toNat)
  case atStart => exact ⟨0, st0, .slice none 0 0, [], Nat.zero_le _, rfl, Lib.hid HR.out.symm, Lib.hid (Nat.le_refl _), Lib.hid inv0, HF, HG, Lib.hid (out_nil _), HB, Lib.hid (new_nil w), Lib.hid (new_nil w)⟩
  case round =>
    clear HF HG HB
    obtain ⟨k, sk, hvk, l, hk, rfl, HE, HL, HI, HF, HG, HO, HB, HNW, HNL⟩ := hrel
    by_cases hlt : k < str.size
    · obtain ⟨y, hy⟩ : ∃ y : Int, y = (k : Int) := ⟨_, rfl⟩
      obtain ⟨RR, hRR⟩ : ∃ r, r = takeA sk [] [bt str (k : Int)] := ⟨_, rfl⟩
      have hstep := HE.out
      rw [bytesL_at str k hlt, take_one, ← hRR] at hstep
      have HM := Lib.hid (show RR.2.length ≤ 1 from by rw [hRR]; exact takeA_len _ _ _)
      have ta := fun W (hf : FeedAt W w.heap.size sk hvk) => take_any w.heap.size sk hvk (str.extract k (k + 1)) W hf HI.out (by rw [← bytesL_len, bytesL_one str k hlt]; show 1 ≤ 1000000; omega)
      rw [bytesL_one str k hlt, ← hRR] at ta
      have hx : str.extract k (k + 1) = str.extract y.toNat (y + 1).toNat := by
        rw [show y.toNat = k by omega, show (y + 1).toNat = k + 1 by omega]
      rw [hx] at ta
      unfold TakesTo at ta
      have TA := Lib.hid ta
      have HE2 := Lib.hid hstep
      have y0 : (0 : Int) ≤ y := by omega
      have y1 : y < (str.size : Int) := by omega
      have y2 : y + 1 ≤ (str.size : Int) := by omega
      have y3 : y ≤ y + 1 := by omega
      have y4 : (0 : Int) ≤ y + 1 := by omega
      have vk : IntKind.i64.wrap (y + 1) = y + 1 := IntWalk.i64_in _ ⟨by omega, by omega⟩
      have HY := Lib.hid hy
      rw [← hy]
      clear hstep ta hx hRR hy HE hsz
      go_wp2_with (first
        | (go_at_call 10; (with_reducible refine (TA.out _ ?hF).mono ?_); (case hF => exact HF.out); rintro e wB ⟨v, hv2, rfl, HOv, HF2, HI2, HT2, HW2, -⟩; have HG2 := Lib.hid (feed_other HG.out HF.out HT2.out hbg.symm nil_apart); have HO2 := Lib.hid (out_turn HF.out HO.out HT2.out); have HB2 := Lib.hid (below_turn HB.out HT2.out (Nat.le_refl _) HNW.out); have HN2 := Lib.hid (new_own HNW.out HW2.out HB.out.size); obtain ⟨A9, c9, ev, hrw⟩ := out_rows HOv.out; subst ev; have HRW := Lib.hid hrw; clear hrw HT2 HW2 HF HG HO HB HNW HOv TA)
        | ((with_reducible refine gate_dst (N := 26) rfl ?_); refine Kd.R_append_rows kC (Rr := kC.M wB 0 (fun j => ∃ cells, wB.heap[j]? = some (Obj.cells cells 9 (0, 0)))) (w0 := wB) 0 (by rfl) (.tmp 18) (.tmp 25) 31 28 (.agg #[.int .i64 0, .slice none 0 0, .int .u32 0, .int .i64 0, .string ⟨#[]⟩, .bool false, .string ⟨#[]⟩]) 88 rfl Tryd.underlying31 infoC rfl (by decide) (by omega) u5 l RR.2 A9 _ c9 (fun _ => True) (fun j => ∃ cells, wB.heap[j]? = some (Obj.cells cells 9 (0, 0))) rfl rfl ?aO ?aR ?aK ?aN ?aF ?aB ?aS ?aL ?_; (case aO => exact HO2.out); (case aR => exact HRW.out); (case aK => exact (fun x cs h => h)); (case aN => exact (fun j hj => ⟨trivial, by obtain ⟨cells, hc⟩ := hj; exact Kd.R_ne HO2.out hc (by decide)⟩)); (case aF => exact (fun _ _ => trivial)); (case aB => exact Below.refl 0 _); (case aS => exact Nat.zero_le _); (case aL => have h8 := HL.out; have h9 := HS.out; have h7 := HM.out; omega); intro v1 wC ho hb4 hg4 hat; have HF3 := Lib.hid (feed_out HF2.out HO2.out hg4); have HG3 := Lib.hid (feed_out HG2.out HO2.out hg4); have HO3 := Lib.hid (show Out wC v1 (l ++ RR.2) from ho); have HB3 := Lib.hid (below_turn HB2.out (turn_grownO hg4) (Nat.le_refl _) HNL.out); have HL3 := Lib.hid (new_app HNL.out hat HB2.out.size); clear ho hb4 hg4 hat HF2 HG2 HO2 HB2))
      exact ⟨⟨k + 1, RR.1, hv2, l ++ RR.2, by omega, by have := HY.out; go_num, HE2, Lib.hid (by have h8 := HL.out; have h9 := HM.out; rw [List.length_append]; omega), HI2, HF3, HG3, HO3, HB3, HN2, HL3⟩, by have := HY.out; simp [intOf]; omega⟩
    · obtain rfl : k = str.size := by omega
      have hres := HE.out
      rw [List.drop_of_length_le (by rw [bytesL_len]; exact Nat.le_refl _)] at hres
      have hres' : (sk, l) = R := hres
      have ta := fun W (hf : FeedAt W bg st0 (.slice none 0 0)) => take_any bg st0 (.slice none 0 0) str W hf inv0 (by have := HS.out; omega)
      rw [← HR.out, ← hres'] at ta
      unfold TakesTo at ta
      have TG := Lib.hid ta
      have HLL := Lib.hid (show l.length ≤ 1000000 from by have h8 := HL.out; have h9 := HS.out; omega)
      clear hres hres' ta HR HE hsz cs
      have TK := Lib.hid trivial
      have TL := Lib.hid trivial
      go_wp2_with (first
        | (go_at_call 7; (with_reducible refine (CF.out _).mono ?_); rintro e w2 ⟨rfl, hb2⟩; replace HF := Lib.hid (feed_below HF.out hb2); replace HG := Lib.hid (feed_below HG.out hb2); replace HO := Lib.hid (out_below HO.out hb2); replace HB := Lib.hid (below_step HB.out hb2); clear hb2)
        | (go_at_call 10; (with_reducible refine (TG.out _ ?hF).mono ?_); (case hF => exact HG.out); rintro e w3 ⟨v, hv2, rfl, HOv, HG2, -, HT2, -, -⟩; replace HF := Lib.hid (feed_other HF.out HG.out HT2.out hbg apart_nil); replace HO := Lib.hid (out_turn HG.out HO.out HT2.out); replace HB := Lib.hid (below_turn HB.out HT2.out hbw (new_nil w)); clear HT2 HG TG)
        | (go_at_call 11; (with_reducible refine (same_calls HO.out HOv.out HLL.out).mono ?_); rintro e w4 ⟨rfl, hb4⟩; replace HF := Lib.hid (feed_below HF.out hb4); replace HG2 := Lib.hid (feed_below HG2.out hb4); replace HB := Lib.hid (below_step HB.out hb4); clear hb4 HO HOv)
        | (go_at_call 12; clear TK; (with_reducible refine (held_any _ _ _ _ HF.out).mono ?_); rintro e w4 ⟨rfl, hb4⟩; replace HF := Lib.hid (feed_below HF.out hb4); replace HG2 := Lib.hid (feed_below HG2.out hb4); replace HB := Lib.hid (below_step HB.out hb4); clear hb4)
        | (go_at_call 12; (with_reducible refine (held_any _ _ _ _ HG2.out).mono ?_); rintro e w4 ⟨rfl, hb4⟩; replace HF := Lib.hid (feed_below HF.out hb4); replace HG2 := Lib.hid (feed_below HG2.out hb4); replace HB := Lib.hid (below_step HB.out hb4); clear hb4)
        | (go_at_call 13; clear TL; (with_reducible refine (over_any _ _ _ _ HF.out).mono ?_); rintro e w4 ⟨rfl, hb4⟩; replace HF := Lib.hid (feed_below HF.out hb4); replace HG2 := Lib.hid (feed_below HG2.out hb4); replace HB := Lib.hid (below_step HB.out hb4); clear hb4)
        | (go_at_call 13; (with_reducible refine (over_any _ _ _ _ HG2.out).mono ?_); rintro e w4 ⟨rfl, hb4⟩; replace HF := Lib.hid (feed_below HF.out hb4); replace HG2 := Lib.hid (feed_below HG2.out hb4); replace HB := Lib.hid (below_step HB.out hb4); clear hb4))
      go_ret
      exact ⟨by go_num, by repeat (first | exact HB.out | apply pw_below_drewN | apply below_drew)⟩
theorem bytes_walk (str : ByteArray) (w : World) :
    Calls Tryd.prog 4 #[.string str] w fun e w' => e = .returned (.bool true) ∧ Below w.heap.size w w' := by
  by_cases h : 5000 < str.size
  · exact bytes_great str w h
  · exact bytes_small str w (by omega)
end Go.Proofs.YthinmioognadpaaDoor.Feed

/- The reference's Parse at any line (own text). -/
import Derived.Test.YtpfggidfcbgaiaaDoorRefParV
import Derived.Test.YtpfggidfcbgaiaaDoorRefParE
import Derived.Test.YtpfggidfcbgaiaaDoorRefParS
import Derived.Test.YtpfggidfcbgaiaaDoorRefParD
import Derived.Test.YtpfggidfcbgaiaaDoorRefParT
import Derived.Test.YtpfggidfcbgaiaaDoorRefGet
namespace Go.Proofs.YtpfggidfcbgaiaaDoor.Cmd
open Go.RowKit Go.Proofs.YtpfggidfcbgaiaaDoorW.PrintWords Go.Proofs.YtpfggidfcbgaiaaDoorW.PrintLast Go.Proofs.YtpfggidfcbgaiaaDoorW.PrintMore Go.Proofs.YtpfggidfcbgaiaaDoor.PCmd Go.Proofs.YtpfggidfcbgaiaaDoor.Split
set_option linter.unusedVariables false
set_option linter.unusedSimpArgs false
set_option maxRecDepth 100000 in
set_option maxHeartbeats 1600000 in
theorem rpar_nil (s : ByteArray) (hs : s.size ≤ 1000000) (hn : (wordsB s) = []) (w : World) :
    Calls Tryd.prog 10 #[.string s] w (TellsC (badA errB (-1)) w.heap.size w) := by
  have CW := Lib.hid (fun w => refWords_nil s hs hn w)
  have CF := Lib.hid rbad_fmt
  have CE := Lib.hid rbad_err
  clear hn
  refine Calls.mono (R := fun e w' => e = .returned (.tuple #[.agg #[.int .i64 8, .slice none 0 0, .int .u32 0, .int .i64 0, .string ⟨#[]⟩, .bool false, .string errB], .int .i64 (-1)]) ∧ Below w.heap.size w w') ?_ ?_
  · go_enter Tryd.func10, Tryd.ntmps10
    go_wp2_with (first
      | (go_at_call 20; ((with_reducible refine (CW.out _).mono ?_); rintro e w1 ⟨A, cap, rfl, hb1⟩; obtain ⟨hc9, hf9⟩ := bcell hb1; have hz9 := hb1.size; (simp at hz9); have hz8 : w.heap.size < w1.heap.size := (by omega); clear hz9))
      | (go_at_call 21; (with_reducible refine (CF.out _).mono ?_); rintro e w2 ⟨rfl, hb2⟩; obtain ⟨hc7, hf7⟩ := bcell hb2; have hz7 := hb2.size; have hz6 : w.heap.size < w2.heap.size := (by omega))
      | (go_at_call 21; (with_reducible refine (CE.out _).mono ?_); rintro e w3 ⟨rfl, hb3⟩; obtain ⟨hc6, hf6⟩ := bcell hb3; have hz4 := hb3.size; (simp at hz4)))
    all_goals
      clear hc9 hf9 hc7 hf7 hc6 hf6
      have hblk := Lib.hid (blk_below (blk_below (blk_new w (.cells #[.int .i64 0, .slice none 0 0, .int .u32 0, .int .i64 0, .string ⟨#[]⟩, .bool false, .string ⟨#[]⟩] 26)) hb1) hb2)
      have hbel := Lib.hid (below_step (below_step (below_alloc (Below.refl w.heap.size w) (.cells #[.int .i64 0, .slice none 0 0, .int .u32 0, .int .i64 0, .string ⟨#[]⟩, .bool false, .string ⟨#[]⟩] 26)) hb1) hb2)
      refine bodyPost_ret (results_ct (p := 2) (u := 3) (ty := 26) (fn := Tryd.f10) ?h0 _ _ w.heap.size 26 #[.int .i64 8, .slice none 0 0, .int .u32 0, .int .i64 0, .string ⟨#[]⟩, .bool false, .string errB] (0, 0) _ ?h1 ?h2 Tryd.underlying26 rfl (by kernel_rfl)) ?h3 ?h4
      case h0 => rfl
      case h1 => rfl
      case h3 => rfl
      case h2 =>
        repeat (with_reducible first | apply blk_drewN | apply blk_drew | apply blk_alloc)
        with_reducible refine put7 (c0 := .int .i64 0) (c1 := .slice none 0 0) (c2 := .int .u32 0) (c3 := .int .i64 0) (c4 := .string ⟨#[]⟩) (c5 := .bool false) (c6 := .string ⟨#[]⟩) ?_
        refine blk_below ?_ hb3
        repeat (first | (with_reducible first | exact hblk.out | apply blk_drewN | apply blk_drew | apply blk_alloc) | refine blk_far ?_ (by show w.heap.size ≠ w2.heap.size; omega) _)
      case h4 =>
        refine ⟨rfl, ?_⟩
        repeat (first | (with_reducible first | exact hbel.out | apply below_alloc | apply pw_below_drewN | apply below_drew1) | refine below_set ?_ (by omega) | refine below_step ?_ hb3)
  · rintro e w' ⟨rfl, hb⟩
    exact ⟨_, rfl, Kd.Q_nil _ _ _ _ _, hb⟩
theorem refParse_any (s : ByteArray) (hs : s.size ≤ 1000000) (w : World) : Calls Tryd.prog 10 #[.string s] w (TellsC (parseP (wordsB s)) w.heap.size w) := by
  have hlen : (wordsB s).length ≤ 1000001 := by
    unfold wordsB
    have h1 := List.length_filter_le (fun x : ByteArray => !x.data.toList.isEmpty) (splitB s)
    have h2 := splitB_le s
    omega
  unfold parseP
  by_cases h0 : wordsB s = []
  · rw [if_pos h0]; exact rpar_nil s hs h0 w
  rw [if_neg h0]
  have hp : 0 < (wordsB s).length := List.length_pos_iff.2 h0
  obtain ⟨n, hn⟩ : ∃ n, (wordsB s).length = n := ⟨_, rfl⟩
  rw [hn] at hlen hp ⊢
  by_cases c0 : wd (wordsB s) 0 = getB
  · rw [if_pos c0]
    have e0 : ((wd (wordsB s) 0).toList == [115, 116, 97, 116, 115]) = false := by rw [c0]; kernel_rfl
    have e1 : ((wd (wordsB s) 0).toList == [118, 101, 114, 115, 105, 111, 110]) = false := by rw [c0]; kernel_rfl
    have e2 : ((wd (wordsB s) 0).toList == [113, 117, 105, 116]) = false := by rw [c0]; kernel_rfl
    have e3 : ((wd (wordsB s) 0).toList == [103, 101, 116]) = true := by rw [c0]; kernel_rfl
    by_cases h1 : n = 1
    · subst h1
      rw [if_neg (by omega)]
      exact rpar_get_1 s hs hn w e0 e1 e2 e3
    · by_cases h17 : n ≤ 17
      · have h := rpar_get s hs n hn (by omega) hlen h17 w e0 e1 e2 e3 _ rfl
        unfold getP at h
        cases hk : ((wordsB s).drop 1).all keyP with
        | true =>
          rw [hk, if_pos rfl] at h
          rw [if_pos ⟨by omega, h17, rfl⟩]
          exact h
        | false =>
          rw [hk, if_neg (by simp)] at h
          rw [if_neg (by simp)]
          exact h
      · rw [if_neg (by omega)]
        exact rpar_get_big s hs n hn (by omega) hlen (by omega) w e0 e1 e2 e3 _ rfl
  rw [if_neg c0]
  by_cases c1 : wd (wordsB s) 0 = setB
  · rw [if_pos c1]
    have e0 : ((wd (wordsB s) 0).toList == [115, 116, 97, 116, 115]) = false := by rw [c1]; kernel_rfl
    have e1 : ((wd (wordsB s) 0).toList == [118, 101, 114, 115, 105, 111, 110]) = false := by rw [c1]; kernel_rfl
    have e2 : ((wd (wordsB s) 0).toList == [113, 117, 105, 116]) = false := by rw [c1]; kernel_rfl
    have e3 : ((wd (wordsB s) 0).toList == [103, 101, 116]) = false := by rw [c1]; kernel_rfl
    have e4 : ((wd (wordsB s) 0).toList == [100, 101, 108, 101, 116, 101]) = false := by rw [c1]; kernel_rfl
    have e5 : ((wd (wordsB s) 0).toList == [116, 111, 117, 99, 104]) = false := by rw [c1]; kernel_rfl
    have e6 : ((wd (wordsB s) 0).toList == [115, 101, 116]) = true := by rw [c1]; kernel_rfl
    by_cases h1 : n = 1
    · subst h1
      exact rpar_set_1 s hs hn w e0 e1 e2 e3 e4 e5 e6
    · refine rpar_set s hs n hn (by omega) hlen w e0 e1 e2 e3 e4 e5 e6 _ rfl ?_
      rintro rfl
      exact lit_iff _ noreplyB
  rw [if_neg c1]
  by_cases c2 : wd (wordsB s) 0 = deleteB
  · rw [if_pos c2]
    have e0 : ((wd (wordsB s) 0).toList == [115, 116, 97, 116, 115]) = false := by rw [c2]; kernel_rfl
    have e1 : ((wd (wordsB s) 0).toList == [118, 101, 114, 115, 105, 111, 110]) = false := by rw [c2]; kernel_rfl
    have e2 : ((wd (wordsB s) 0).toList == [113, 117, 105, 116]) = false := by rw [c2]; kernel_rfl
    have e3 : ((wd (wordsB s) 0).toList == [103, 101, 116]) = false := by rw [c2]; kernel_rfl
    have e4 : ((wd (wordsB s) 0).toList == [100, 101, 108, 101, 116, 101]) = true := by rw [c2]; kernel_rfl
    have n2 : ((wd (wordsB s) 2).toList == [110, 111, 114, 101, 112, 108, 121]) = decide (wd (wordsB s) 2 = noreplyB) := lit_iff _ noreplyB
    by_cases h1 : n = 1
    · subst h1
      rw [if_neg (by omega)]
      exact rpar_delete_1 s hs hn w e0 e1 e2 e3 e4
    by_cases h2 : n = 2
    · subst h2
      cases hk : keyP (wd (wordsB s) 1) with
      | true =>
        rw [if_pos ⟨Or.inl rfl, rfl⟩]
        exact rpar_delete_no s hs hn w e0 e1 e2 e3 e4 _ rfl hk
      | false => rw [if_neg (by simp)]; exact rpar_delete_no_k s hs hn w e0 e1 e2 e3 e4 _ rfl hk
    · by_cases h3 : n = 3
      · subst h3
        by_cases hr : wd (wordsB s) 2 = noreplyB
        · rw [decide_eq_true hr] at n2
          cases hk : keyP (wd (wordsB s) 1) with
          | true =>
            rw [if_pos ⟨Or.inr ⟨rfl, hr⟩, rfl⟩]
            exact rpar_delete_yes s hs hn w e0 e1 e2 e3 e4 n2 hk
          | false => rw [if_neg (by simp)]; exact rpar_delete_yes_k s hs hn w e0 e1 e2 e3 e4 n2 hk
        · rw [decide_eq_false hr] at n2
          rw [if_neg (by rintro ⟨h | h, _⟩; exact absurd h (by omega); exact hr h.2)]
          exact rpar_delete_x s hs hn w e0 e1 e2 e3 e4 n2
      · rw [if_neg (by omega)]
        exact rpar_delete_n s hs n hn (by omega) hlen h2 h3 w e0 e1 e2 e3 e4 _ rfl
  rw [if_neg c2]
  by_cases c3 : wd (wordsB s) 0 = touchB
  · rw [if_pos c3]
    have e0 : ((wd (wordsB s) 0).toList == [115, 116, 97, 116, 115]) = false := by rw [c3]; kernel_rfl
    have e1 : ((wd (wordsB s) 0).toList == [118, 101, 114, 115, 105, 111, 110]) = false := by rw [c3]; kernel_rfl
    have e2 : ((wd (wordsB s) 0).toList == [113, 117, 105, 116]) = false := by rw [c3]; kernel_rfl
    have e3 : ((wd (wordsB s) 0).toList == [103, 101, 116]) = false := by rw [c3]; kernel_rfl
    have e4 : ((wd (wordsB s) 0).toList == [100, 101, 108, 101, 116, 101]) = false := by rw [c3]; kernel_rfl
    have e5 : ((wd (wordsB s) 0).toList == [116, 111, 117, 99, 104]) = true := by rw [c3]; kernel_rfl
    have n3 : ((wd (wordsB s) 3).toList == [110, 111, 114, 101, 112, 108, 121]) = decide (wd (wordsB s) 3 = noreplyB) := lit_iff _ noreplyB
    by_cases h1 : n = 1
    · subst h1
      rw [if_neg (by omega)]
      exact rpar_touch_1 s hs hn w e0 e1 e2 e3 e4 e5
    by_cases h2 : n = 3
    · subst h2
      cases hk : keyP (wd (wordsB s) 1) with
      | false => rw [if_neg (by simp)]; exact rpar_touch_no_k s hs hn w e0 e1 e2 e3 e4 e5 _ rfl hk
      | true =>
        cases hm : momB (wd (wordsB s) 2) with
        | false => rw [if_neg (by simp)]; exact rpar_touch_no_m s hs hn w e0 e1 e2 e3 e4 e5 _ rfl hm hk
        | true =>
          rw [if_pos ⟨Or.inl rfl, rfl, rfl⟩]
          exact rpar_touch_no s hs hn w e0 e1 e2 e3 e4 e5 _ rfl hm hk
    · by_cases h3 : n = 4
      · subst h3
        by_cases hr : wd (wordsB s) 3 = noreplyB
        · rw [decide_eq_true hr] at n3
          cases hk : keyP (wd (wordsB s) 1) with
          | false => rw [if_neg (by simp)]; exact rpar_touch_yes_k s hs hn w e0 e1 e2 e3 e4 e5 n3 hk
          | true =>
            cases hm : momB (wd (wordsB s) 2) with
            | false => rw [if_neg (by simp)]; exact rpar_touch_yes_m s hs hn w e0 e1 e2 e3 e4 e5 n3 hm hk
            | true =>
              rw [if_pos ⟨Or.inr ⟨rfl, hr⟩, rfl, rfl⟩]
              exact rpar_touch_yes s hs hn w e0 e1 e2 e3 e4 e5 n3 hm hk
        · rw [decide_eq_false hr] at n3
          rw [if_neg (by rintro ⟨h | h, _⟩; exact absurd h (by omega); exact hr h.2)]
          exact rpar_touch_x s hs hn w e0 e1 e2 e3 e4 e5 n3
      · rw [if_neg (by omega)]
        exact rpar_touch_n s hs n hn (by omega) hlen h2 h3 w e0 e1 e2 e3 e4 e5 _ rfl
  rw [if_neg c3]
  by_cases c4 : wd (wordsB s) 0 = statsB
  · rw [if_pos c4]
    have e0 : ((wd (wordsB s) 0).toList == [115, 116, 97, 116, 115]) = true := by rw [c4]; kernel_rfl
    by_cases h1 : n = 1
    · subst h1; rw [if_pos rfl]; exact rpar_stats s hs hn w e0
    · rw [if_neg h1]; exact rpar_stats_n s hs n hn (by omega) hlen w e0 _ rfl
  rw [if_neg c4]
  by_cases c5 : wd (wordsB s) 0 = versionB
  · rw [if_pos c5]
    have e0 : ((wd (wordsB s) 0).toList == [115, 116, 97, 116, 115]) = false := by rw [c5]; kernel_rfl
    have e1 : ((wd (wordsB s) 0).toList == [118, 101, 114, 115, 105, 111, 110]) = true := by rw [c5]; kernel_rfl
    by_cases h1 : n = 1
    · subst h1; rw [if_pos rfl]; exact rpar_version s hs hn w e0 e1
    · rw [if_neg h1]; exact rpar_version_n s hs n hn (by omega) hlen w e0 e1 _ rfl
  rw [if_neg c5]
  by_cases c6 : wd (wordsB s) 0 = quitB
  · rw [if_pos c6]
    have e0 : ((wd (wordsB s) 0).toList == [115, 116, 97, 116, 115]) = false := by rw [c6]; kernel_rfl
    have e1 : ((wd (wordsB s) 0).toList == [118, 101, 114, 115, 105, 111, 110]) = false := by rw [c6]; kernel_rfl
    have e2 : ((wd (wordsB s) 0).toList == [113, 117, 105, 116]) = true := by rw [c6]; kernel_rfl
    by_cases h1 : n = 1
    · subst h1; rw [if_pos rfl]; exact rpar_quit s hs hn w e0 e1 e2
    · rw [if_neg h1]; exact rpar_quit_n s hs n hn (by omega) hlen w e0 e1 e2 _ rfl
  rw [if_neg c6]
  have e0 : ((wd (wordsB s) 0).toList == [115, 116, 97, 116, 115]) = false := (lit_iff _ statsB).trans (decide_eq_false c4)
  have e1 : ((wd (wordsB s) 0).toList == [118, 101, 114, 115, 105, 111, 110]) = false := (lit_iff _ versionB).trans (decide_eq_false c5)
  have e2 : ((wd (wordsB s) 0).toList == [113, 117, 105, 116]) = false := (lit_iff _ quitB).trans (decide_eq_false c6)
  have e3 : ((wd (wordsB s) 0).toList == [103, 101, 116]) = false := (lit_iff _ getB).trans (decide_eq_false c0)
  have e4 : ((wd (wordsB s) 0).toList == [100, 101, 108, 101, 116, 101]) = false := (lit_iff _ deleteB).trans (decide_eq_false c2)
  have e5 : ((wd (wordsB s) 0).toList == [116, 111, 117, 99, 104]) = false := (lit_iff _ touchB).trans (decide_eq_false c3)
  have e6 : ((wd (wordsB s) 0).toList == [115, 101, 116]) = false := (lit_iff _ setB).trans (decide_eq_false c1)
  by_cases h1 : n = 1
  · subst h1; exact rpar_err_1 s hs hn w e0 e1 e2 e3 e4 e5 e6
  · exact rpar_err_n s hs n hn (by omega) hlen w e0 e1 e2 e3 e4 e5 e6 _ rfl
end Go.Proofs.YtpfggidfcbgaiaaDoor.Cmd

/- The ways through tattlerref07.Parse (printed by wip/tools/gen_refparse.py, a program of this session). -/
import Derived.Test.YtpfggidfcbgaiaaDoorRefParH
namespace Go.Proofs.YtpfggidfcbgaiaaDoor.Cmd
open Go.RowKit Go.Proofs.YtpfggidfcbgaiaaDoorW.PrintWords Go.Proofs.YtpfggidfcbgaiaaDoorW.PrintLast Go.Proofs.YtpfggidfcbgaiaaDoorW.PrintMore Go.Proofs.YtpfggidfcbgaiaaDoor.PCmd Go.Proofs.YtpfggidfcbgaiaaDoor.Split
set_option linter.unusedVariables false
set_option linter.unusedSimpArgs false
set_option maxRecDepth 100000 in
set_option maxHeartbeats 1600000 in
theorem rpar_err_1 (s : ByteArray) (hs : s.size ≤ 1000000) (hn : (wordsB s).length = 1) (w : World) (e0 : ((wd (wordsB s) 0).toList == [115, 116, 97, 116, 115]) = false) (e1 : ((wd (wordsB s) 0).toList == [118, 101, 114, 115, 105, 111, 110]) = false) (e2 : ((wd (wordsB s) 0).toList == [113, 117, 105, 116]) = false) (e3 : ((wd (wordsB s) 0).toList == [103, 101, 116]) = false) (e4 : ((wd (wordsB s) 0).toList == [100, 101, 108, 101, 116, 101]) = false) (e5 : ((wd (wordsB s) 0).toList == [116, 111, 117, 99, 104]) = false) (e6 : ((wd (wordsB s) 0).toList == [115, 101, 116]) = false) :
    Calls Tryd.prog 10 #[.string s] w (TellsC (badA errB (-1)) w.heap.size w) := by
  have CW := Lib.hid (fun w => refWords_c s hs 1 hn (by omega) w)
  have HS := Lib.hid (fun (x : ByteArray) (h : x ∈ wordsB s) => Nat.le_trans (words_size h) hs)
  have CF := Lib.hid rbad_fmt
  have CE := Lib.hid rbad_err
  have HN := Lib.hid hn
  clear hn
  refine Calls.mono (R := fun e w' => e = .returned (.tuple #[.agg #[.int .i64 8, .slice none 0 0, .int .u32 0, .int .i64 0, .string ⟨#[]⟩, .bool false, .string errB], .int .i64 (-1)]) ∧ Below w.heap.size w w') ?_ ?_
  · go_enter Tryd.func10, Tryd.ntmps10
    go_wp2_with (first
      | (go_at_call 20; ((with_reducible refine (CW.out _).mono ?_); rintro e w1 ⟨g, cap, rfl, hcap, hg, hlt, hx, hR, hb1⟩; obtain ⟨hc9, hf9⟩ := bcell hb1; have hz9 := hb1.size; (simp at hz9 hg); have hz8 : w.heap.size < w1.heap.size := (by omega); clear hz9; have x0 := wd_cell hx.out 0 (by have := HN.out; omega); clear hx))
      | (go_at_call 21; (with_reducible refine (CF.out _).mono ?_); rintro e w2 ⟨rfl, hb2⟩; obtain ⟨hc7, hf7⟩ := bcell hb2; have hz7 := hb2.size; have hz6 : w.heap.size < w2.heap.size := (by omega); have hz5 : g < w2.heap.size := (by omega))
      | (go_at_call 21; (with_reducible refine (CE.out _).mono ?_); rintro e w3 ⟨rfl, hb3⟩; obtain ⟨hc6, hf6⟩ := bcell hb3; have hz4 := hb3.size; (simp at hz4)))
    all_goals
      clear hc9 hf9 hc7 hf7 hc6 hf6
      have hblk := Lib.hid (blk_below (blk_below (blk_new w (.cells #[.int .i64 0, .slice none 0 0, .int .u32 0, .int .i64 0, .string ⟨#[]⟩, .bool false, .string ⟨#[]⟩] 26)) hb1) hb2)
      have hbel := Lib.hid (below_step (below_step (below_alloc (Below.refl w.heap.size w) (.cells #[.int .i64 0, .slice none 0 0, .int .u32 0, .int .i64 0, .string ⟨#[]⟩, .bool false, .string ⟨#[]⟩] 26)) hb1) hb2)
      refine bodyPost_ret (results_ct (p := 2) (u := 3) (ty := 26) (fn := Tryd.f10) ?h0 _ _ w.heap.size 26 #[.int .i64 8, .slice none 0 0, .int .u32 0, .int .i64 0, .string ⟨#[]⟩, .bool false, .string errB] (0, 0) _ ?h1 ?h2 Tryd.underlying26 rfl (by kernel_rfl)) ?h3 ?h4
      case h0 => rfl
      case h1 => rfl
      case h3 => rfl
      case h2 =>
        repeat (with_reducible first | apply blk_drewN | apply blk_drew | apply blk_alloc)
        with_reducible refine put7 (c0 := .int .i64 0) (c1 := .slice none 0 0) (c2 := .int .u32 0) (c3 := .int .i64 0) (c4 := .string ⟨#[]⟩) (c5 := .bool false) (c6 := .string ⟨#[]⟩) ?_
        refine blk_below ?_ hb3
        repeat (first | (with_reducible first | exact hblk.out | apply blk_drewN | apply blk_drew | apply blk_alloc) | refine blk_far ?_ (by show w.heap.size ≠ w2.heap.size; omega) _)
      case h4 =>
        refine ⟨rfl, ?_⟩
        repeat (first | (with_reducible first | exact hbel.out | apply below_alloc | apply pw_below_drewN | apply below_drew1) | refine below_set ?_ (by omega) | refine below_step ?_ hb3)
  · rintro e w' ⟨rfl, hb⟩
    exact ⟨_, rfl, Kd.Q_nil _ _ _ _ _, hb⟩
set_option maxRecDepth 100000 in
set_option maxHeartbeats 1600000 in
theorem rpar_err_n (s : ByteArray) (hs : s.size ≤ 1000000) (n : Nat) (hn : (wordsB s).length = n) (hn0 : 1 < n) (hn1 : n ≤ 1000001) (w : World) (e0 : ((wd (wordsB s) 0).toList == [115, 116, 97, 116, 115]) = false) (e1 : ((wd (wordsB s) 0).toList == [118, 101, 114, 115, 105, 111, 110]) = false) (e2 : ((wd (wordsB s) 0).toList == [113, 117, 105, 116]) = false) (e3 : ((wd (wordsB s) 0).toList == [103, 101, 116]) = false) (e4 : ((wd (wordsB s) 0).toList == [100, 101, 108, 101, 116, 101]) = false) (e5 : ((wd (wordsB s) 0).toList == [116, 111, 117, 99, 104]) = false) (e6 : ((wd (wordsB s) 0).toList == [115, 101, 116]) = false) (lb : Bool) (hl : ((wd (wordsB s) (n - 1)).toList == [110, 111, 114, 101, 112, 108, 121]) = lb) :
    Calls Tryd.prog 10 #[.string s] w (TellsC (badA errB (-1)) w.heap.size w) := by
  have CW := Lib.hid (fun w => refWords_c s hs n hn (by omega) w)
  have HS := Lib.hid (fun (x : ByteArray) (h : x ∈ wordsB s) => Nat.le_trans (words_size h) hs)
  have HN0 := Lib.hid hn0
  have v0 : IntKind.i64.wrap ((n : Int) - 1) = (n : Int) - 1 := IntWalk.i64_in _ ⟨by omega, by omega⟩
  have v1 : 0 ≤ (n : Int) - 1 := by omega
  have v2 : ((n : Int) - 1).toNat = n - 1 := by omega
  have v3 : decide ((1 : Int) < (n : Int)) = true := decide_eq_true (by omega)
  have v4 : 1 ≤ (n : Int) := by omega
  have v5 : ((n : Int) == 0) = false := beq_eq_false_iff_ne.2 (by omega)
  have v6 : (n : Int) - 1 < (n : Int) := by omega
  have CF := Lib.hid rbad_fmt
  have CE := Lib.hid rbad_err
  have HN := Lib.hid hn
  clear hn
  refine Calls.mono (R := fun e w' => e = .returned (.tuple #[.agg #[.int .i64 8, .slice none 0 0, .int .u32 0, .int .i64 0, .string ⟨#[]⟩, .bool false, .string errB], .int .i64 (-1)]) ∧ Below w.heap.size w w') ?_ ?_
  · go_enter Tryd.func10, Tryd.ntmps10
    go_wp2_with (first
      | (go_at_call 20; ((with_reducible refine (CW.out _).mono ?_); rintro e w1 ⟨g, cap, rfl, hcap, hg, hlt, hx, hR, hb1⟩; obtain ⟨hc9, hf9⟩ := bcell hb1; have hz9 := hb1.size; (simp at hz9 hg); have hz8 : w.heap.size < w1.heap.size := (by omega); clear hz9; have x0 := wd_cell hx.out 0 (by have := HN.out; have := HN0.out; omega); have x9 := wd_cell hx.out (n - 1) (by have := HN.out; have := HN0.out; omega); clear hx))
      | (go_at_call 21; (with_reducible refine (CF.out _).mono ?_); rintro e w2 ⟨rfl, hb2⟩; obtain ⟨hc7, hf7⟩ := bcell hb2; have hz7 := hb2.size; have hz6 : w.heap.size < w2.heap.size := (by omega); have hz5 : g < w2.heap.size := (by omega))
      | (go_at_call 21; (with_reducible refine (CE.out _).mono ?_); rintro e w3 ⟨rfl, hb3⟩; obtain ⟨hc6, hf6⟩ := bcell hb3; have hz4 := hb3.size; (simp at hz4)))
    all_goals
      clear hc9 hf9 hc7 hf7 hc6 hf6
      have hblk := Lib.hid (blk_below (blk_below (blk_new w (.cells #[.int .i64 0, .slice none 0 0, .int .u32 0, .int .i64 0, .string ⟨#[]⟩, .bool false, .string ⟨#[]⟩] 26)) hb1) hb2)
      have hbel := Lib.hid (below_step (below_step (below_alloc (Below.refl w.heap.size w) (.cells #[.int .i64 0, .slice none 0 0, .int .u32 0, .int .i64 0, .string ⟨#[]⟩, .bool false, .string ⟨#[]⟩] 26)) hb1) hb2)
      refine bodyPost_ret (results_ct (p := 2) (u := 3) (ty := 26) (fn := Tryd.f10) ?h0 _ _ w.heap.size 26 #[.int .i64 8, .slice none 0 0, .int .u32 0, .int .i64 0, .string ⟨#[]⟩, .bool false, .string errB] (0, 0) _ ?h1 ?h2 Tryd.underlying26 rfl (by kernel_rfl)) ?h3 ?h4
      case h0 => rfl
      case h1 => rfl
      case h3 => rfl
      case h2 =>
        repeat (with_reducible first | apply blk_drewN | apply blk_drew | apply blk_alloc)
        with_reducible refine put7 (c0 := .int .i64 0) (c1 := .slice none 0 0) (c2 := .int .u32 0) (c3 := .int .i64 0) (c4 := .string ⟨#[]⟩) (c5 := .bool false) (c6 := .string ⟨#[]⟩) ?_
        refine blk_below ?_ hb3
        repeat (first | (with_reducible first | exact hblk.out | apply blk_drewN | apply blk_drew | apply blk_alloc) | refine blk_far ?_ (by show w.heap.size ≠ w2.heap.size; omega) _)
      case h4 =>
        refine ⟨rfl, ?_⟩
        repeat (first | (with_reducible first | exact hbel.out | apply below_alloc | apply pw_below_drewN | apply below_drew1) | refine below_set ?_ (by omega) | refine below_step ?_ hb3)
  · rintro e w' ⟨rfl, hb⟩
    exact ⟨_, rfl, Kd.Q_nil _ _ _ _ _, hb⟩
set_option maxRecDepth 100000 in
set_option maxHeartbeats 1600000 in
theorem rpar_get_1 (s : ByteArray) (hs : s.size ≤ 1000000) (hn : (wordsB s).length = 1) (w : World) (e0 : ((wd (wordsB s) 0).toList == [115, 116, 97, 116, 115]) = false) (e1 : ((wd (wordsB s) 0).toList == [118, 101, 114, 115, 105, 111, 110]) = false) (e2 : ((wd (wordsB s) 0).toList == [113, 117, 105, 116]) = false) (e3 : ((wd (wordsB s) 0).toList == [103, 101, 116]) = true) :
    Calls Tryd.prog 10 #[.string s] w (TellsC (badA fmtB (-1)) w.heap.size w) := by
  have CW := Lib.hid (fun w => refWords_c s hs 1 hn (by omega) w)
  have HS := Lib.hid (fun (x : ByteArray) (h : x ∈ wordsB s) => Nat.le_trans (words_size h) hs)
  have CF := Lib.hid rbad_fmt
  have HN := Lib.hid hn
  clear hn
  refine Calls.mono (R := fun e w' => e = .returned (.tuple #[.agg #[.int .i64 8, .slice none 0 0, .int .u32 0, .int .i64 0, .string ⟨#[]⟩, .bool false, .string fmtB], .int .i64 (-1)]) ∧ Below w.heap.size w w') ?_ ?_
  · go_enter Tryd.func10, Tryd.ntmps10
    go_wp2_with (first
      | (go_at_call 20; ((with_reducible refine (CW.out _).mono ?_); rintro e w1 ⟨g, cap, rfl, hcap, hg, hlt, hx, hR, hb1⟩; obtain ⟨hc9, hf9⟩ := bcell hb1; have hz9 := hb1.size; (simp at hz9 hg); have hz8 : w.heap.size < w1.heap.size := (by omega); clear hz9; have x0 := wd_cell hx.out 0 (by have := HN.out; omega); clear hx))
      | (go_at_call 21; (with_reducible refine (CF.out _).mono ?_); rintro e w2 ⟨rfl, hb2⟩; obtain ⟨hc7, hf7⟩ := bcell hb2; have hz7 := hb2.size; have hz6 : w.heap.size < w2.heap.size := (by omega); have hz5 : g < w2.heap.size := (by omega)))
    all_goals
      clear hc9 hf9 hc7 hf7
      have hblk := Lib.hid (blk_below (blk_below (blk_new w (.cells #[.int .i64 0, .slice none 0 0, .int .u32 0, .int .i64 0, .string ⟨#[]⟩, .bool false, .string ⟨#[]⟩] 26)) hb1) hb2)
      have hbel := Lib.hid (below_step (below_step (below_alloc (Below.refl w.heap.size w) (.cells #[.int .i64 0, .slice none 0 0, .int .u32 0, .int .i64 0, .string ⟨#[]⟩, .bool false, .string ⟨#[]⟩] 26)) hb1) hb2)
      refine bodyPost_ret (results_ct (p := 2) (u := 3) (ty := 26) (fn := Tryd.f10) ?h0 _ _ w.heap.size 26 #[.int .i64 8, .slice none 0 0, .int .u32 0, .int .i64 0, .string ⟨#[]⟩, .bool false, .string fmtB] (0, 0) _ ?h1 ?h2 Tryd.underlying26 rfl (by kernel_rfl)) ?h3 ?h4
      case h0 => rfl
      case h1 => rfl
      case h3 => rfl
      case h2 =>
        repeat (with_reducible first | apply blk_drewN | apply blk_drew | apply blk_alloc)
        with_reducible refine put7 (c0 := .int .i64 0) (c1 := .slice none 0 0) (c2 := .int .u32 0) (c3 := .int .i64 0) (c4 := .string ⟨#[]⟩) (c5 := .bool false) (c6 := .string ⟨#[]⟩) ?_
        repeat (first | (with_reducible first | exact hblk.out | apply blk_drewN | apply blk_drew | apply blk_alloc) | refine blk_far ?_ (by show w.heap.size ≠ w2.heap.size; omega) _)
      case h4 =>
        refine ⟨rfl, ?_⟩
        repeat (first | (with_reducible first | exact hbel.out | apply below_alloc | apply pw_below_drewN | apply below_drew1) | refine below_set ?_ (by omega))
  · rintro e w' ⟨rfl, hb⟩
    exact ⟨_, rfl, Kd.Q_nil _ _ _ _ _, hb⟩
set_option maxRecDepth 100000 in
set_option maxHeartbeats 1600000 in
theorem rpar_get_big (s : ByteArray) (hs : s.size ≤ 1000000) (n : Nat) (hn : (wordsB s).length = n) (hn0 : 1 < n) (hn1 : n ≤ 1000001) (h17 : 17 < n) (w : World) (e0 : ((wd (wordsB s) 0).toList == [115, 116, 97, 116, 115]) = false) (e1 : ((wd (wordsB s) 0).toList == [118, 101, 114, 115, 105, 111, 110]) = false) (e2 : ((wd (wordsB s) 0).toList == [113, 117, 105, 116]) = false) (e3 : ((wd (wordsB s) 0).toList == [103, 101, 116]) = true) (lb : Bool) (hl : ((wd (wordsB s) (n - 1)).toList == [110, 111, 114, 101, 112, 108, 121]) = lb) :
    Calls Tryd.prog 10 #[.string s] w (TellsC (badA fmtB (-1)) w.heap.size w) := by
  have CW := Lib.hid (fun w => refWords_c s hs n hn (by omega) w)
  have HS := Lib.hid (fun (x : ByteArray) (h : x ∈ wordsB s) => Nat.le_trans (words_size h) hs)
  have t0 : decide ((17 : Int) < (n : Int)) = true := decide_eq_true (by omega)
  have t1 : decide ((n : Int) < 2) = false := decide_eq_false (by omega)
  have HN0 := Lib.hid hn0
  have v0 : IntKind.i64.wrap ((n : Int) - 1) = (n : Int) - 1 := IntWalk.i64_in _ ⟨by omega, by omega⟩
  have v1 : 0 ≤ (n : Int) - 1 := by omega
  have v2 : ((n : Int) - 1).toNat = n - 1 := by omega
  have v3 : decide ((1 : Int) < (n : Int)) = true := decide_eq_true (by omega)
  have v4 : 1 ≤ (n : Int) := by omega
  have v5 : ((n : Int) == 0) = false := beq_eq_false_iff_ne.2 (by omega)
  have v6 : (n : Int) - 1 < (n : Int) := by omega
  have CF := Lib.hid rbad_fmt
  have HN := Lib.hid hn
  clear hn h17
  refine Calls.mono (R := fun e w' => e = .returned (.tuple #[.agg #[.int .i64 8, .slice none 0 0, .int .u32 0, .int .i64 0, .string ⟨#[]⟩, .bool false, .string fmtB], .int .i64 (-1)]) ∧ Below w.heap.size w w') ?_ ?_
  · go_enter Tryd.func10, Tryd.ntmps10
    go_wp2_with (first
      | (go_at_call 20; ((with_reducible refine (CW.out _).mono ?_); rintro e w1 ⟨g, cap, rfl, hcap, hg, hlt, hx, hR, hb1⟩; obtain ⟨hc9, hf9⟩ := bcell hb1; have hz9 := hb1.size; (simp at hz9 hg); have hz8 : w.heap.size < w1.heap.size := (by omega); clear hz9; have x0 := wd_cell hx.out 0 (by have := HN.out; have := HN0.out; omega); have x9 := wd_cell hx.out (n - 1) (by have := HN.out; have := HN0.out; omega); clear hx))
      | (go_at_call 21; (with_reducible refine (CF.out _).mono ?_); rintro e w2 ⟨rfl, hb2⟩; obtain ⟨hc7, hf7⟩ := bcell hb2; have hz7 := hb2.size; have hz6 : w.heap.size < w2.heap.size := (by omega); have hz5 : g < w2.heap.size := (by omega)))
    all_goals
      clear hc9 hf9 hc7 hf7
      have hblk := Lib.hid (blk_below (blk_below (blk_new w (.cells #[.int .i64 0, .slice none 0 0, .int .u32 0, .int .i64 0, .string ⟨#[]⟩, .bool false, .string ⟨#[]⟩] 26)) hb1) hb2)
      have hbel := Lib.hid (below_step (below_step (below_alloc (Below.refl w.heap.size w) (.cells #[.int .i64 0, .slice none 0 0, .int .u32 0, .int .i64 0, .string ⟨#[]⟩, .bool false, .string ⟨#[]⟩] 26)) hb1) hb2)
      refine bodyPost_ret (results_ct (p := 2) (u := 3) (ty := 26) (fn := Tryd.f10) ?h0 _ _ w.heap.size 26 #[.int .i64 8, .slice none 0 0, .int .u32 0, .int .i64 0, .string ⟨#[]⟩, .bool false, .string fmtB] (0, 0) _ ?h1 ?h2 Tryd.underlying26 rfl (by kernel_rfl)) ?h3 ?h4
      case h0 => rfl
      case h1 => rfl
      case h3 => rfl
      case h2 =>
        repeat (with_reducible first | apply blk_drewN | apply blk_drew | apply blk_alloc)
        with_reducible refine put7 (c0 := .int .i64 0) (c1 := .slice none 0 0) (c2 := .int .u32 0) (c3 := .int .i64 0) (c4 := .string ⟨#[]⟩) (c5 := .bool false) (c6 := .string ⟨#[]⟩) ?_
        repeat (first | (with_reducible first | exact hblk.out | apply blk_drewN | apply blk_drew | apply blk_alloc) | refine blk_far ?_ (by show w.heap.size ≠ w2.heap.size; omega) _)
      case h4 =>
        refine ⟨rfl, ?_⟩
        repeat (first | (with_reducible first | exact hbel.out | apply below_alloc | apply pw_below_drewN | apply below_drew1) | refine below_set ?_ (by omega))
  · rintro e w' ⟨rfl, hb⟩
    exact ⟨_, rfl, Kd.Q_nil _ _ _ _ _, hb⟩
end Go.Proofs.YtpfggidfcbgaiaaDoor.Cmd

/- Merged of CmdParV, CmdParA (own text; wip/tools/merge.py). -/
import Derived.Test.YthinmioognadpaaDoorCmdB
/- The ways through cmd.Parse (printed by wip/tools/gen_cmdparse.py, a program of this session). -/
namespace Go.Proofs.YthinmioognadpaaDoor.Cmd
open Go.RowKit Go.Proofs.YthinmioognadpaaDoorW.PrintWords Go.Proofs.YthinmioognadpaaDoorW.PrintLast Go.Proofs.YthinmioognadpaaDoorW.PrintMore Go.Proofs.YthinmioognadpaaDoor.PCmd Go.Proofs.YthinmioognadpaaDoor.Split
set_option linter.unusedVariables false
set_option linter.unusedSimpArgs false
set_option maxRecDepth 100000 in
set_option maxHeartbeats 1600000 in
theorem par_stats (s : ByteArray) (hs : s.size ≤ 1000000) (hn : (wordsB s).length = 1) (w : World) (e0 : ((wd (wordsB s) 0).toList == [103, 101, 116]) = false) (e1 : ((wd (wordsB s) 0).toList == [115, 101, 116]) = false) (e2 : ((wd (wordsB s) 0).toList == [100, 101, 108, 101, 116, 101]) = false) (e3 : ((wd (wordsB s) 0).toList == [116, 111, 117, 99, 104]) = false) (e4 : ((wd (wordsB s) 0).toList == [115, 116, 97, 116, 115]) = true) :
    Calls Tryd.prog 23 #[.string s] w (TellsC (5, [], 0, 0, ⟨#[]⟩, false, ⟨#[]⟩, -1) w.heap.size w) := by
  have CW := Lib.hid (fun w => words_c s hs 1 hn (by omega) w)
  have HS := Lib.hid (fun (x : ByteArray) (h : x ∈ wordsB s) => Nat.le_trans (words_size h) hs)
  have CK := Lib.hid keys_nil
  have HN := Lib.hid hn
  clear hn
  refine Calls.mono (R := fun e w' => e = .returned (.tuple #[.agg #[.int .i64 5, .slice none 0 0, .int .u32 0, .int .i64 0, .string ⟨#[]⟩, .bool false, .string ⟨#[]⟩], .int .i64 (-1)]) ∧ Below w.heap.size w w') ?_ ?_
  · go_enter Tryd.func23, Tryd.ntmps23
    go_wp2_with (first
      | (go_at_call 28; ((with_reducible refine (CW.out _).mono ?_); rintro e w1 ⟨g, cap, rfl, hcap, hg, hlt, hx, hR, hb1⟩; obtain ⟨hc9, hf9⟩ := bcell hb1; have hz9 := hb1.size; (simp at hz9 hg); have hz8 : w.heap.size < w1.heap.size := (by omega); clear hz9; have x0 := wd_cell hx.out 0 (by have := HN.out; omega); clear hx))
      | (go_at_call 33; (with_reducible refine (CK.out _).mono ?_); rintro e w' ⟨rfl, ⟨nd, rfl⟩⟩))
    all_goals
      clear hc9 hf9
      have hblk := Lib.hid (blk_below (blk_new w (.cells #[.int .i64 0, .slice none 0 0, .int .u32 0, .int .i64 0, .string ⟨#[]⟩, .bool false, .string ⟨#[]⟩] 28)) hb1)
      have hbel := Lib.hid (below_step (below_alloc (Below.refl w.heap.size w) (.cells #[.int .i64 0, .slice none 0 0, .int .u32 0, .int .i64 0, .string ⟨#[]⟩, .bool false, .string ⟨#[]⟩] 28)) hb1)
      refine bodyPost_ret (results_ct (p := 2) (u := 3) (ty := 28) (fn := Tryd.f23) ?h0 _ _ w.heap.size 28 #[.int .i64 5, .slice none 0 0, .int .u32 0, .int .i64 0, .string ⟨#[]⟩, .bool false, .string ⟨#[]⟩] (0, 0) _ ?h1 ?h2 Tryd.underlying28 rfl (by kernel_rfl)) ?h3 ?h4
      case h0 => rfl
      case h1 => rfl
      case h3 => rfl
      case h2 =>
        refine put7 (c0 := .int .i64 0) (c1 := .slice none 0 0) (c2 := .int .u32 0) (c3 := .int .i64 0) (c4 := .string ⟨#[]⟩) (c5 := .bool false) (c6 := .string ⟨#[]⟩) ?_
        repeat (first | (with_reducible first | exact hblk.out | apply blk_drewN | apply blk_drew | apply blk_alloc) | refine blk_far ?_ (by show w.heap.size ≠ w1.heap.size; omega) _)
      case h4 =>
        refine ⟨rfl, ?_⟩
        repeat (first | (with_reducible first | exact hbel.out | apply below_alloc | apply pw_below_drewN | apply below_drew1) | refine below_set ?_ (by omega))
  · rintro e w' ⟨rfl, hb⟩
    exact ⟨_, rfl, Kd.Q_nil _ _ _ _ _, hb⟩
set_option maxRecDepth 100000 in
set_option maxHeartbeats 1600000 in
theorem par_stats_n (s : ByteArray) (hs : s.size ≤ 1000000) (n : Nat) (hn : (wordsB s).length = n) (hn0 : 0 < n) (hn1 : n ≤ 1000001) (h1 : n ≠ 1) (w : World) (e0 : ((wd (wordsB s) 0).toList == [103, 101, 116]) = false) (e1 : ((wd (wordsB s) 0).toList == [115, 101, 116]) = false) (e2 : ((wd (wordsB s) 0).toList == [100, 101, 108, 101, 116, 101]) = false) (e3 : ((wd (wordsB s) 0).toList == [116, 111, 117, 99, 104]) = false) (e4 : ((wd (wordsB s) 0).toList == [115, 116, 97, 116, 115]) = true) :
    Calls Tryd.prog 23 #[.string s] w (TellsC (badA fmtB (-1)) w.heap.size w) := by
  have CW := Lib.hid (fun w => words_c s hs n hn (by omega) w)
  have HS := Lib.hid (fun (x : ByteArray) (h : x ∈ wordsB s) => Nat.le_trans (words_size h) hs)
  have t0 : ((n : Int) == 1) = false := beq_eq_false_iff_ne.2 (by omega)
  have t1 : ((n : Int) == 0) = false := beq_eq_false_iff_ne.2 (by omega)
  have HN0 := Lib.hid hn0
  have CB := Lib.hid (fun w => bad_fmt w)
  have HN := Lib.hid hn
  clear hn h1
  refine Calls.mono (R := fun e w' => e = .returned (.tuple #[.agg #[.int .i64 8, .slice none 0 0, .int .u32 0, .int .i64 0, .string ⟨#[]⟩, .bool false, .string fmtB], .int .i64 (-1)]) ∧ Below w.heap.size w w') ?_ ?_
  · go_enter Tryd.func23, Tryd.ntmps23
    go_wp2_with (first
      | (go_at_call 28; ((with_reducible refine (CW.out _).mono ?_); rintro e w1 ⟨g, cap, rfl, hcap, hg, hlt, hx, hR, hb1⟩; obtain ⟨hc9, hf9⟩ := bcell hb1; have hz9 := hb1.size; (simp at hz9 hg); have hz8 : w.heap.size < w1.heap.size := (by omega); clear hz9; have x0 := wd_cell hx.out 0 (by have := HN.out; have := HN0.out; omega); clear hx))
      | (go_at_call 29; (with_reducible refine (CB.out _).mono ?_); rintro e w2 ⟨rfl, hb2⟩; obtain ⟨hc8, hf8⟩ := bcell hb2))
    all_goals
      clear hc8 hf8
      clear hc9 hf9
      have hblk := Lib.hid (blk_below (blk_new w (.cells #[.int .i64 0, .slice none 0 0, .int .u32 0, .int .i64 0, .string ⟨#[]⟩, .bool false, .string ⟨#[]⟩] 28)) hb1)
      have hbel := Lib.hid (below_step (below_alloc (Below.refl w.heap.size w) (.cells #[.int .i64 0, .slice none 0 0, .int .u32 0, .int .i64 0, .string ⟨#[]⟩, .bool false, .string ⟨#[]⟩] 28)) hb1)
      refine bodyPost_ret (results_ct (p := 2) (u := 3) (ty := 28) (fn := Tryd.f23) ?h0 _ _ w.heap.size 28 #[.int .i64 8, .slice none 0 0, .int .u32 0, .int .i64 0, .string ⟨#[]⟩, .bool false, .string fmtB] (0, 0) _ ?h1 ?h2 Tryd.underlying28 rfl (by kernel_rfl)) ?h3 ?h4
      case h0 => rfl
      case h1 => rfl
      case h3 => rfl
      case h2 =>
        refine put7 (c0 := .int .i64 0) (c1 := .slice none 0 0) (c2 := .int .u32 0) (c3 := .int .i64 0) (c4 := .string ⟨#[]⟩) (c5 := .bool false) (c6 := .string ⟨#[]⟩) ?_
        refine blk_below ?_ hb2
        repeat (first | (with_reducible first | exact hblk.out | apply blk_drewN | apply blk_drew | apply blk_alloc) | refine blk_far ?_ (by show w.heap.size ≠ w1.heap.size; omega) _)
      case h4 =>
        refine ⟨rfl, ?_⟩
        repeat (first | (with_reducible first | exact hbel.out | apply below_alloc | apply pw_below_drewN | apply below_drew1) | refine below_set ?_ (by omega) | refine below_step ?_ hb2)
  · rintro e w' ⟨rfl, hb⟩
    exact ⟨_, rfl, Kd.Q_nil _ _ _ _ _, hb⟩
set_option maxRecDepth 100000 in
set_option maxHeartbeats 1600000 in
theorem par_version (s : ByteArray) (hs : s.size ≤ 1000000) (hn : (wordsB s).length = 1) (w : World) (e0 : ((wd (wordsB s) 0).toList == [103, 101, 116]) = false) (e1 : ((wd (wordsB s) 0).toList == [115, 101, 116]) = false) (e2 : ((wd (wordsB s) 0).toList == [100, 101, 108, 101, 116, 101]) = false) (e3 : ((wd (wordsB s) 0).toList == [116, 111, 117, 99, 104]) = false) (e4 : ((wd (wordsB s) 0).toList == [115, 116, 97, 116, 115]) = false) (e5 : ((wd (wordsB s) 0).toList == [118, 101, 114, 115, 105, 111, 110]) = true) :
    Calls Tryd.prog 23 #[.string s] w (TellsC (6, [], 0, 0, ⟨#[]⟩, false, ⟨#[]⟩, -1) w.heap.size w) := by
  have CW := Lib.hid (fun w => words_c s hs 1 hn (by omega) w)
  have HS := Lib.hid (fun (x : ByteArray) (h : x ∈ wordsB s) => Nat.le_trans (words_size h) hs)
  have CK := Lib.hid keys_nil
  have HN := Lib.hid hn
  clear hn
  refine Calls.mono (R := fun e w' => e = .returned (.tuple #[.agg #[.int .i64 6, .slice none 0 0, .int .u32 0, .int .i64 0, .string ⟨#[]⟩, .bool false, .string ⟨#[]⟩], .int .i64 (-1)]) ∧ Below w.heap.size w w') ?_ ?_
  · go_enter Tryd.func23, Tryd.ntmps23
    go_wp2_with (first
      | (go_at_call 28; ((with_reducible refine (CW.out _).mono ?_); rintro e w1 ⟨g, cap, rfl, hcap, hg, hlt, hx, hR, hb1⟩; obtain ⟨hc9, hf9⟩ := bcell hb1; have hz9 := hb1.size; (simp at hz9 hg); have hz8 : w.heap.size < w1.heap.size := (by omega); clear hz9; have x0 := wd_cell hx.out 0 (by have := HN.out; omega); clear hx))
      | (go_at_call 33; (with_reducible refine (CK.out _).mono ?_); rintro e w' ⟨rfl, ⟨nd, rfl⟩⟩))
    all_goals
      clear hc9 hf9
      have hblk := Lib.hid (blk_below (blk_new w (.cells #[.int .i64 0, .slice none 0 0, .int .u32 0, .int .i64 0, .string ⟨#[]⟩, .bool false, .string ⟨#[]⟩] 28)) hb1)
      have hbel := Lib.hid (below_step (below_alloc (Below.refl w.heap.size w) (.cells #[.int .i64 0, .slice none 0 0, .int .u32 0, .int .i64 0, .string ⟨#[]⟩, .bool false, .string ⟨#[]⟩] 28)) hb1)
      refine bodyPost_ret (results_ct (p := 2) (u := 3) (ty := 28) (fn := Tryd.f23) ?h0 _ _ w.heap.size 28 #[.int .i64 6, .slice none 0 0, .int .u32 0, .int .i64 0, .string ⟨#[]⟩, .bool false, .string ⟨#[]⟩] (0, 0) _ ?h1 ?h2 Tryd.underlying28 rfl (by kernel_rfl)) ?h3 ?h4
      case h0 => rfl
      case h1 => rfl
      case h3 => rfl
      case h2 =>
        refine put7 (c0 := .int .i64 0) (c1 := .slice none 0 0) (c2 := .int .u32 0) (c3 := .int .i64 0) (c4 := .string ⟨#[]⟩) (c5 := .bool false) (c6 := .string ⟨#[]⟩) ?_
        repeat (first | (with_reducible first | exact hblk.out | apply blk_drewN | apply blk_drew | apply blk_alloc) | refine blk_far ?_ (by show w.heap.size ≠ w1.heap.size; omega) _)
      case h4 =>
        refine ⟨rfl, ?_⟩
        repeat (first | (with_reducible first | exact hbel.out | apply below_alloc | apply pw_below_drewN | apply below_drew1) | refine below_set ?_ (by omega))
  · rintro e w' ⟨rfl, hb⟩
    exact ⟨_, rfl, Kd.Q_nil _ _ _ _ _, hb⟩
set_option maxRecDepth 100000 in
set_option maxHeartbeats 1600000 in
theorem par_version_n (s : ByteArray) (hs : s.size ≤ 1000000) (n : Nat) (hn : (wordsB s).length = n) (hn0 : 0 < n) (hn1 : n ≤ 1000001) (h1 : n ≠ 1) (w : World) (e0 : ((wd (wordsB s) 0).toList == [103, 101, 116]) = false) (e1 : ((wd (wordsB s) 0).toList == [115, 101, 116]) = false) (e2 : ((wd (wordsB s) 0).toList == [100, 101, 108, 101, 116, 101]) = false) (e3 : ((wd (wordsB s) 0).toList == [116, 111, 117, 99, 104]) = false) (e4 : ((wd (wordsB s) 0).toList == [115, 116, 97, 116, 115]) = false) (e5 : ((wd (wordsB s) 0).toList == [118, 101, 114, 115, 105, 111, 110]) = true) :
    Calls Tryd.prog 23 #[.string s] w (TellsC (badA fmtB (-1)) w.heap.size w) := by
  have CW := Lib.hid (fun w => words_c s hs n hn (by omega) w)
  have HS := Lib.hid (fun (x : ByteArray) (h : x ∈ wordsB s) => Nat.le_trans (words_size h) hs)
  have t0 : ((n : Int) == 1) = false := beq_eq_false_iff_ne.2 (by omega)
  have t1 : ((n : Int) == 0) = false := beq_eq_false_iff_ne.2 (by omega)
  have HN0 := Lib.hid hn0
  have CB := Lib.hid (fun w => bad_fmt w)
  have HN := Lib.hid hn
  clear hn h1
  refine Calls.mono (R := fun e w' => e = .returned (.tuple #[.agg #[.int .i64 8, .slice none 0 0, .int .u32 0, .int .i64 0, .string ⟨#[]⟩, .bool false, .string fmtB], .int .i64 (-1)]) ∧ Below w.heap.size w w') ?_ ?_
  · go_enter Tryd.func23, Tryd.ntmps23
    go_wp2_with (first
      | (go_at_call 28; ((with_reducible refine (CW.out _).mono ?_); rintro e w1 ⟨g, cap, rfl, hcap, hg, hlt, hx, hR, hb1⟩; obtain ⟨hc9, hf9⟩ := bcell hb1; have hz9 := hb1.size; (simp at hz9 hg); have hz8 : w.heap.size < w1.heap.size := (by omega); clear hz9; have x0 := wd_cell hx.out 0 (by have := HN.out; have := HN0.out; omega); clear hx))
      | (go_at_call 29; (with_reducible refine (CB.out _).mono ?_); rintro e w2 ⟨rfl, hb2⟩; obtain ⟨hc8, hf8⟩ := bcell hb2))
    all_goals
      clear hc8 hf8
      clear hc9 hf9
      have hblk := Lib.hid (blk_below (blk_new w (.cells #[.int .i64 0, .slice none 0 0, .int .u32 0, .int .i64 0, .string ⟨#[]⟩, .bool false, .string ⟨#[]⟩] 28)) hb1)
      have hbel := Lib.hid (below_step (below_alloc (Below.refl w.heap.size w) (.cells #[.int .i64 0, .slice none 0 0, .int .u32 0, .int .i64 0, .string ⟨#[]⟩, .bool false, .string ⟨#[]⟩] 28)) hb1)
      refine bodyPost_ret (results_ct (p := 2) (u := 3) (ty := 28) (fn := Tryd.f23) ?h0 _ _ w.heap.size 28 #[.int .i64 8, .slice none 0 0, .int .u32 0, .int .i64 0, .string ⟨#[]⟩, .bool false, .string fmtB] (0, 0) _ ?h1 ?h2 Tryd.underlying28 rfl (by kernel_rfl)) ?h3 ?h4
      case h0 => rfl
      case h1 => rfl
      case h3 => rfl
      case h2 =>
        refine put7 (c0 := .int .i64 0) (c1 := .slice none 0 0) (c2 := .int .u32 0) (c3 := .int .i64 0) (c4 := .string ⟨#[]⟩) (c5 := .bool false) (c6 := .string ⟨#[]⟩) ?_
        refine blk_below ?_ hb2
        repeat (first | (with_reducible first | exact hblk.out | apply blk_drewN | apply blk_drew | apply blk_alloc) | refine blk_far ?_ (by show w.heap.size ≠ w1.heap.size; omega) _)
      case h4 =>
        refine ⟨rfl, ?_⟩
        repeat (first | (with_reducible first | exact hbel.out | apply below_alloc | apply pw_below_drewN | apply below_drew1) | refine below_set ?_ (by omega) | refine below_step ?_ hb2)
  · rintro e w' ⟨rfl, hb⟩
    exact ⟨_, rfl, Kd.Q_nil _ _ _ _ _, hb⟩
set_option maxRecDepth 100000 in
set_option maxHeartbeats 1600000 in
theorem par_quit (s : ByteArray) (hs : s.size ≤ 1000000) (hn : (wordsB s).length = 1) (w : World) (e0 : ((wd (wordsB s) 0).toList == [103, 101, 116]) = false) (e1 : ((wd (wordsB s) 0).toList == [115, 101, 116]) = false) (e2 : ((wd (wordsB s) 0).toList == [100, 101, 108, 101, 116, 101]) = false) (e3 : ((wd (wordsB s) 0).toList == [116, 111, 117, 99, 104]) = false) (e4 : ((wd (wordsB s) 0).toList == [115, 116, 97, 116, 115]) = false) (e5 : ((wd (wordsB s) 0).toList == [118, 101, 114, 115, 105, 111, 110]) = false) (e6 : ((wd (wordsB s) 0).toList == [113, 117, 105, 116]) = true) :
    Calls Tryd.prog 23 #[.string s] w (TellsC (7, [], 0, 0, ⟨#[]⟩, false, ⟨#[]⟩, -1) w.heap.size w) := by
  have CW := Lib.hid (fun w => words_c s hs 1 hn (by omega) w)
  have HS := Lib.hid (fun (x : ByteArray) (h : x ∈ wordsB s) => Nat.le_trans (words_size h) hs)
  have CK := Lib.hid keys_nil
  have HN := Lib.hid hn
  clear hn
  refine Calls.mono (R := fun e w' => e = .returned (.tuple #[.agg #[.int .i64 7, .slice none 0 0, .int .u32 0, .int .i64 0, .string ⟨#[]⟩, .bool false, .string ⟨#[]⟩], .int .i64 (-1)]) ∧ Below w.heap.size w w') ?_ ?_
  · go_enter Tryd.func23, Tryd.ntmps23
    go_wp2_with (first
      | (go_at_call 28; ((with_reducible refine (CW.out _).mono ?_); rintro e w1 ⟨g, cap, rfl, hcap, hg, hlt, hx, hR, hb1⟩; obtain ⟨hc9, hf9⟩ := bcell hb1; have hz9 := hb1.size; (simp at hz9 hg); have hz8 : w.heap.size < w1.heap.size := (by omega); clear hz9; have x0 := wd_cell hx.out 0 (by have := HN.out; omega); clear hx))
      | (go_at_call 33; (with_reducible refine (CK.out _).mono ?_); rintro e w' ⟨rfl, ⟨nd, rfl⟩⟩))
    all_goals
      clear hc9 hf9
      have hblk := Lib.hid (blk_below (blk_new w (.cells #[.int .i64 0, .slice none 0 0, .int .u32 0, .int .i64 0, .string ⟨#[]⟩, .bool false, .string ⟨#[]⟩] 28)) hb1)
      have hbel := Lib.hid (below_step (below_alloc (Below.refl w.heap.size w) (.cells #[.int .i64 0, .slice none 0 0, .int .u32 0, .int .i64 0, .string ⟨#[]⟩, .bool false, .string ⟨#[]⟩] 28)) hb1)
      refine bodyPost_ret (results_ct (p := 2) (u := 3) (ty := 28) (fn := Tryd.f23) ?h0 _ _ w.heap.size 28 #[.int .i64 7, .slice none 0 0, .int .u32 0, .int .i64 0, .string ⟨#[]⟩, .bool false, .string ⟨#[]⟩] (0, 0) _ ?h1 ?h2 Tryd.underlying28 rfl (by kernel_rfl)) ?h3 ?h4
      case h0 => rfl
      case h1 => rfl
      case h3 => rfl
      case h2 =>
        refine put7 (c0 := .int .i64 0) (c1 := .slice none 0 0) (c2 := .int .u32 0) (c3 := .int .i64 0) (c4 := .string ⟨#[]⟩) (c5 := .bool false) (c6 := .string ⟨#[]⟩) ?_
        repeat (first | (with_reducible first | exact hblk.out | apply blk_drewN | apply blk_drew | apply blk_alloc) | refine blk_far ?_ (by show w.heap.size ≠ w1.heap.size; omega) _)
      case h4 =>
        refine ⟨rfl, ?_⟩
        repeat (first | (with_reducible first | exact hbel.out | apply below_alloc | apply pw_below_drewN | apply below_drew1) | refine below_set ?_ (by omega))
  · rintro e w' ⟨rfl, hb⟩
    exact ⟨_, rfl, Kd.Q_nil _ _ _ _ _, hb⟩
set_option maxRecDepth 100000 in
set_option maxHeartbeats 1600000 in
theorem par_quit_n (s : ByteArray) (hs : s.size ≤ 1000000) (n : Nat) (hn : (wordsB s).length = n) (hn0 : 0 < n) (hn1 : n ≤ 1000001) (h1 : n ≠ 1) (w : World) (e0 : ((wd (wordsB s) 0).toList == [103, 101, 116]) = false) (e1 : ((wd (wordsB s) 0).toList == [115, 101, 116]) = false) (e2 : ((wd (wordsB s) 0).toList == [100, 101, 108, 101, 116, 101]) = false) (e3 : ((wd (wordsB s) 0).toList == [116, 111, 117, 99, 104]) = false) (e4 : ((wd (wordsB s) 0).toList == [115, 116, 97, 116, 115]) = false) (e5 : ((wd (wordsB s) 0).toList == [118, 101, 114, 115, 105, 111, 110]) = false) (e6 : ((wd (wordsB s) 0).toList == [113, 117, 105, 116]) = true) :
    Calls Tryd.prog 23 #[.string s] w (TellsC (badA fmtB (-1)) w.heap.size w) := by
  have CW := Lib.hid (fun w => words_c s hs n hn (by omega) w)
  have HS := Lib.hid (fun (x : ByteArray) (h : x ∈ wordsB s) => Nat.le_trans (words_size h) hs)
  have t0 : ((n : Int) == 1) = false := beq_eq_false_iff_ne.2 (by omega)
  have t1 : ((n : Int) == 0) = false := beq_eq_false_iff_ne.2 (by omega)
  have HN0 := Lib.hid hn0
  have CB := Lib.hid (fun w => bad_fmt w)
  have HN := Lib.hid hn
  clear hn h1
  refine Calls.mono (R := fun e w' => e = .returned (.tuple #[.agg #[.int .i64 8, .slice none 0 0, .int .u32 0, .int .i64 0, .string ⟨#[]⟩, .bool false, .string fmtB], .int .i64 (-1)]) ∧ Below w.heap.size w w') ?_ ?_
  · go_enter Tryd.func23, Tryd.ntmps23
    go_wp2_with (first
      | (go_at_call 28; ((with_reducible refine (CW.out _).mono ?_); rintro e w1 ⟨g, cap, rfl, hcap, hg, hlt, hx, hR, hb1⟩; obtain ⟨hc9, hf9⟩ := bcell hb1; have hz9 := hb1.size; (simp at hz9 hg); have hz8 : w.heap.size < w1.heap.size := (by omega); clear hz9; have x0 := wd_cell hx.out 0 (by have := HN.out; have := HN0.out; omega); clear hx))
      | (go_at_call 29; (with_reducible refine (CB.out _).mono ?_); rintro e w2 ⟨rfl, hb2⟩; obtain ⟨hc8, hf8⟩ := bcell hb2))
    all_goals
      clear hc8 hf8
      clear hc9 hf9
      have hblk := Lib.hid (blk_below (blk_new w (.cells #[.int .i64 0, .slice none 0 0, .int .u32 0, .int .i64 0, .string ⟨#[]⟩, .bool false, .string ⟨#[]⟩] 28)) hb1)
      have hbel := Lib.hid (below_step (below_alloc (Below.refl w.heap.size w) (.cells #[.int .i64 0, .slice none 0 0, .int .u32 0, .int .i64 0, .string ⟨#[]⟩, .bool false, .string ⟨#[]⟩] 28)) hb1)
      refine bodyPost_ret (results_ct (p := 2) (u := 3) (ty := 28) (fn := Tryd.f23) ?h0 _ _ w.heap.size 28 #[.int .i64 8, .slice none 0 0, .int .u32 0, .int .i64 0, .string ⟨#[]⟩, .bool false, .string fmtB] (0, 0) _ ?h1 ?h2 Tryd.underlying28 rfl (by kernel_rfl)) ?h3 ?h4
      case h0 => rfl
      case h1 => rfl
      case h3 => rfl
      case h2 =>
        refine put7 (c0 := .int .i64 0) (c1 := .slice none 0 0) (c2 := .int .u32 0) (c3 := .int .i64 0) (c4 := .string ⟨#[]⟩) (c5 := .bool false) (c6 := .string ⟨#[]⟩) ?_
        refine blk_below ?_ hb2
        repeat (first | (with_reducible first | exact hblk.out | apply blk_drewN | apply blk_drew | apply blk_alloc) | refine blk_far ?_ (by show w.heap.size ≠ w1.heap.size; omega) _)
      case h4 =>
        refine ⟨rfl, ?_⟩
        repeat (first | (with_reducible first | exact hbel.out | apply below_alloc | apply pw_below_drewN | apply below_drew1) | refine below_set ?_ (by omega) | refine below_step ?_ hb2)
  · rintro e w' ⟨rfl, hb⟩
    exact ⟨_, rfl, Kd.Q_nil _ _ _ _ _, hb⟩
set_option maxRecDepth 100000 in
set_option maxHeartbeats 1600000 in
theorem par_err (s : ByteArray) (hs : s.size ≤ 1000000) (n : Nat) (hn : (wordsB s).length = n) (hn0 : 0 < n) (hn1 : n ≤ 1000001) (w : World) (e0 : ((wd (wordsB s) 0).toList == [103, 101, 116]) = false) (e1 : ((wd (wordsB s) 0).toList == [115, 101, 116]) = false) (e2 : ((wd (wordsB s) 0).toList == [100, 101, 108, 101, 116, 101]) = false) (e3 : ((wd (wordsB s) 0).toList == [116, 111, 117, 99, 104]) = false) (e4 : ((wd (wordsB s) 0).toList == [115, 116, 97, 116, 115]) = false) (e5 : ((wd (wordsB s) 0).toList == [118, 101, 114, 115, 105, 111, 110]) = false) (e6 : ((wd (wordsB s) 0).toList == [113, 117, 105, 116]) = false) :
    Calls Tryd.prog 23 #[.string s] w (TellsC (badA errB (-1)) w.heap.size w) := by
  have CW := Lib.hid (fun w => words_c s hs n hn (by omega) w)
  have HS := Lib.hid (fun (x : ByteArray) (h : x ∈ wordsB s) => Nat.le_trans (words_size h) hs)
  have t0 : ((n : Int) == 0) = false := beq_eq_false_iff_ne.2 (by omega)
  have HN0 := Lib.hid hn0
  have CB := Lib.hid (fun w => bad_err w)
  have HN := Lib.hid hn
  clear hn
  refine Calls.mono (R := fun e w' => e = .returned (.tuple #[.agg #[.int .i64 8, .slice none 0 0, .int .u32 0, .int .i64 0, .string ⟨#[]⟩, .bool false, .string errB], .int .i64 (-1)]) ∧ Below w.heap.size w w') ?_ ?_
  · go_enter Tryd.func23, Tryd.ntmps23
    go_wp2_with (first
      | (go_at_call 28; ((with_reducible refine (CW.out _).mono ?_); rintro e w1 ⟨g, cap, rfl, hcap, hg, hlt, hx, hR, hb1⟩; obtain ⟨hc9, hf9⟩ := bcell hb1; have hz9 := hb1.size; (simp at hz9 hg); have hz8 : w.heap.size < w1.heap.size := (by omega); clear hz9; have x0 := wd_cell hx.out 0 (by have := HN.out; have := HN0.out; omega); clear hx))
      | (go_at_call 29; (with_reducible refine (CB.out _).mono ?_); rintro e w2 ⟨rfl, hb2⟩; obtain ⟨hc8, hf8⟩ := bcell hb2))
    all_goals
      clear hc8 hf8
      clear hc9 hf9
      have hblk := Lib.hid (blk_below (blk_new w (.cells #[.int .i64 0, .slice none 0 0, .int .u32 0, .int .i64 0, .string ⟨#[]⟩, .bool false, .string ⟨#[]⟩] 28)) hb1)
      have hbel := Lib.hid (below_step (below_alloc (Below.refl w.heap.size w) (.cells #[.int .i64 0, .slice none 0 0, .int .u32 0, .int .i64 0, .string ⟨#[]⟩, .bool false, .string ⟨#[]⟩] 28)) hb1)
      refine bodyPost_ret (results_ct (p := 2) (u := 3) (ty := 28) (fn := Tryd.f23) ?h0 _ _ w.heap.size 28 #[.int .i64 8, .slice none 0 0, .int .u32 0, .int .i64 0, .string ⟨#[]⟩, .bool false, .string errB] (0, 0) _ ?h1 ?h2 Tryd.underlying28 rfl (by kernel_rfl)) ?h3 ?h4
      case h0 => rfl
      case h1 => rfl
      case h3 => rfl
      case h2 =>
        refine put7 (c0 := .int .i64 0) (c1 := .slice none 0 0) (c2 := .int .u32 0) (c3 := .int .i64 0) (c4 := .string ⟨#[]⟩) (c5 := .bool false) (c6 := .string ⟨#[]⟩) ?_
        refine blk_below ?_ hb2
        repeat (first | (with_reducible first | exact hblk.out | apply blk_drewN | apply blk_drew | apply blk_alloc) | refine blk_far ?_ (by show w.heap.size ≠ w1.heap.size; omega) _)
      case h4 =>
        refine ⟨rfl, ?_⟩
        repeat (first | (with_reducible first | exact hbel.out | apply below_alloc | apply pw_below_drewN | apply below_drew1) | refine below_set ?_ (by omega) | refine below_step ?_ hb2)
  · rintro e w' ⟨rfl, hb⟩
    exact ⟨_, rfl, Kd.Q_nil _ _ _ _ _, hb⟩
set_option maxRecDepth 100000 in
set_option maxHeartbeats 1600000 in
theorem par_set (s : ByteArray) (hs : s.size ≤ 1000000) (n : Nat) (hn : (wordsB s).length = n) (hn0 : 0 < n) (hn1 : n ≤ 1000001) (w : World) (e0 : ((wd (wordsB s) 0).toList == [103, 101, 116]) = false) (e1 : ((wd (wordsB s) 0).toList == [115, 101, 116]) = true) :
    Calls Tryd.prog 23 #[.string s] w (TellsC (setP (wordsB s)) w.heap.size w) := by
  have CW := Lib.hid (fun w => words_c s hs n hn (by omega) w)
  have HS := Lib.hid (fun (x : ByteArray) (h : x ∈ wordsB s) => Nat.le_trans (words_size h) hs)
  have t0 : ((n : Int) == 0) = false := beq_eq_false_iff_ne.2 (by omega)
  have HN0 := Lib.hid hn0
  have HN := Lib.hid hn
  clear hn
  refine Calls.mono (R := fun e w' => ∃ v, e = .returned (.tuple #[.agg #[.int .i64 (setP (wordsB s)).1, v, .int .u32 (setP (wordsB s)).2.2.1, .int .i64 (setP (wordsB s)).2.2.2.1, .string (setP (wordsB s)).2.2.2.2.1, .bool (setP (wordsB s)).2.2.2.2.2.1, .string (setP (wordsB s)).2.2.2.2.2.2.1], .int .i64 (setP (wordsB s)).2.2.2.2.2.2.2]) ∧ Kd.Q Kd.string 9 w' w.heap.size (fun _ => True) v (setP (wordsB s)).2.1 ∧ Below w.heap.size w w') ?_ ?_
  · go_enter Tryd.func23, Tryd.ntmps23
    go_wp2_with (first
      | (go_at_call 28; ((with_reducible refine (CW.out _).mono ?_); rintro e w1 ⟨g, cap, rfl, hcap, hg, hlt, hx, hR, hb1⟩; obtain ⟨hc9, hf9⟩ := bcell hb1; have hz9 := hb1.size; (simp at hz9 hg); have hz8 : w.heap.size < w1.heap.size := (by omega); clear hz9; have x0 := wd_cell hx.out 0 (by have := HN.out; have := HN0.out; omega)))
      | (go_at_call 30; refine (set_n (wordsB s) n HN.out g cap _ _ (Kd.R_alloc hR.out _) (by simp; omega) hcap (fun i x hi => ((Below.refl _ _).alloc (Nat.le_refl _) _ |>.cell (p := ⟨g, i, none⟩) hlt).trans (hx.out i x hi)) (by omega) HS.out).mono ?_; rintro e w2 ⟨v, rfl, hQ, hb2⟩; obtain ⟨A9, c9, rfl, hlc9⟩ := Kd.Q_slice hQ; obtain ⟨hc8, hf8⟩ := bcell hb2))
    all_goals
      clear hc8 hf8
      clear hc9 hf9
      have hblk := Lib.hid (blk_below (blk_new w (.cells #[.int .i64 0, .slice none 0 0, .int .u32 0, .int .i64 0, .string ⟨#[]⟩, .bool false, .string ⟨#[]⟩] 28)) hb1)
      have hbel := Lib.hid (below_step (below_alloc (Below.refl w.heap.size w) (.cells #[.int .i64 0, .slice none 0 0, .int .u32 0, .int .i64 0, .string ⟨#[]⟩, .bool false, .string ⟨#[]⟩] 28)) hb1)
      refine bodyPost_ret (results_ct (p := 2) (u := 3) (ty := 28) (fn := Tryd.f23) ?h0 _ _ w.heap.size 28 #[.int .i64 (setP (wordsB s)).1, .slice A9 (setP (wordsB s)).2.1.length c9, .int .u32 (setP (wordsB s)).2.2.1, .int .i64 (setP (wordsB s)).2.2.2.1, .string (setP (wordsB s)).2.2.2.2.1, .bool (setP (wordsB s)).2.2.2.2.2.1, .string (setP (wordsB s)).2.2.2.2.2.2.1] (0, 0) _ ?h1 ?h2 Tryd.underlying28 rfl (by kernel_rfl)) ?h3 ?h4
      case h0 => rfl
      case h1 => rfl
      case h3 => rfl
      case h2 =>
        refine put7 (c0 := .int .i64 0) (c1 := .slice none 0 0) (c2 := .int .u32 0) (c3 := .int .i64 0) (c4 := .string ⟨#[]⟩) (c5 := .bool false) (c6 := .string ⟨#[]⟩) ?_
        refine blk_below ?_ hb2
        repeat (first | (with_reducible first | exact hblk.out | apply blk_drewN | apply blk_drew | apply blk_alloc) | refine blk_far ?_ (by show w.heap.size ≠ w1.heap.size; omega) _)
      case h4 =>
        refine ⟨_, rfl, ?_, ?_⟩
        · exact Q_same hQ (by repeat (first | (with_reducible first | exact same_refl _ _ | apply same_drewN | apply same_drew | apply same_alloc) | refine same_set ?_ _ (by first | (simp; done) | (simp; omega)))) (by simp)
        repeat (first | (with_reducible first | exact hbel.out | apply below_alloc | apply pw_below_drewN | apply below_drew1) | refine below_set ?_ (by omega) | refine below_step ?_ hb2)
  · rintro e w' ⟨v, rfl, hQ, hb⟩
    exact ⟨_, rfl, hQ, hb⟩
set_option maxRecDepth 100000 in
set_option maxHeartbeats 1600000 in
theorem par_get (s : ByteArray) (hs : s.size ≤ 1000000) (n : Nat) (hn : (wordsB s).length = n) (hn0 : 0 < n) (hn1 : n ≤ 1000001) (h1 : 2 ≤ n) (h2 : n ≤ 17) (w : World) (e0 : ((wd (wordsB s) 0).toList == [103, 101, 116]) = true) (hko : (((wordsB s).take n).drop 1).all keyP = true) :
    Calls Tryd.prog 23 #[.string s] w (TellsC (1, ((wordsB s).take n).drop 1, 0, 0, ⟨#[]⟩, false, ⟨#[]⟩, -1) w.heap.size w) := by
  have CW := Lib.hid (fun w => words_c s hs n hn (by omega) w)
  have HS := Lib.hid (fun (x : ByteArray) (h : x ∈ wordsB s) => Nat.le_trans (words_size h) hs)
  have t0 : ((n : Int) == 0) = false := beq_eq_false_iff_ne.2 (by omega)
  have t1 : decide ((2 : Int) ≤ (n : Int)) = true := decide_eq_true (by omega)
  have t2 : decide ((n : Int) ≤ 17) = true := decide_eq_true (by omega)
  have HN0 := Lib.hid hn0
  have HKO := Lib.hid hko
  clear hko
  have HN := Lib.hid hn
  clear hn
  refine Calls.mono (R := fun e w' => ∃ v, e = .returned (.tuple #[.agg #[.int .i64 1, v, .int .u32 0, .int .i64 0, .string ⟨#[]⟩, .bool false, .string ⟨#[]⟩], .int .i64 (-1)]) ∧ Kd.Q Kd.string 9 w' w.heap.size (fun _ => True) v (((wordsB s).take n).drop 1) ∧ Below w.heap.size w w') ?_ ?_
  · go_enter Tryd.func23, Tryd.ntmps23
    go_wp2_with (first
      | (go_at_call 28; ((with_reducible refine (CW.out _).mono ?_); rintro e w1 ⟨g, cap, rfl, hcap, hg, hlt, hx, hR, hb1⟩; obtain ⟨hc9, hf9⟩ := bcell hb1; have hz9 := hb1.size; (simp at hz9 hg); have hz8 : w.heap.size < w1.heap.size := (by omega); clear hz9; have x0 := wd_cell hx.out 0 (by have := HN.out; have := HN0.out; omega); clear hx)))
    go_region
    all_goals go_wp2_with (first
      | (go_at_call 33; refine (keys_n (w := w1) (m := n) HN.out hR.out (by omega) (by omega) (by omega) (by omega) HS.out _ (by repeat (first | (with_reducible first | exact Below.refl _ _ | apply below_alloc | apply pw_below_drewN | apply below_drew1) | refine below_set ?_ (Nat.le_refl _)))).mono ?_; rintro e w' ⟨rfl, ⟨nd, rfl⟩⟩; rw [HKO.out]))
    all_goals
      clear hc9 hf9
      have hblk := Lib.hid (blk_below (blk_new w (.cells #[.int .i64 0, .slice none 0 0, .int .u32 0, .int .i64 0, .string ⟨#[]⟩, .bool false, .string ⟨#[]⟩] 28)) hb1)
      have hbel := Lib.hid (below_step (below_alloc (Below.refl w.heap.size w) (.cells #[.int .i64 0, .slice none 0 0, .int .u32 0, .int .i64 0, .string ⟨#[]⟩, .bool false, .string ⟨#[]⟩] 28)) hb1)
      refine bodyPost_ret (results_ct (p := 2) (u := 3) (ty := 28) (fn := Tryd.f23) ?h0 _ _ w.heap.size 28 #[.int .i64 1, (.slice (some ⟨g, 1, none⟩) (n - 1) (cap - 1)), .int .u32 0, .int .i64 0, .string ⟨#[]⟩, .bool false, .string ⟨#[]⟩] (0, 0) _ ?h1 ?h2 Tryd.underlying28 rfl (by kernel_rfl)) ?h3 ?h4
      case h0 => rfl
      case h1 => rfl
      case h3 => rfl
      case h2 =>
        refine put7 (c0 := .int .i64 0) (c1 := .slice none 0 0) (c2 := .int .u32 0) (c3 := .int .i64 0) (c4 := .string ⟨#[]⟩) (c5 := .bool false) (c6 := .string ⟨#[]⟩) ?_
        repeat (first | (with_reducible first | exact hblk.out | apply blk_drewN | apply blk_drew | apply blk_alloc) | refine blk_far ?_ (by show w.heap.size ≠ w1.heap.size; omega) _)
      case h4 =>
        refine ⟨_, rfl, Q_same (Q_n (m := n) HN.out hR.out (by omega) (by omega) (by omega)) (by repeat (first | (with_reducible first | exact same_refl _ _ | apply same_drewN | apply same_drew | apply same_alloc) | refine same_set ?_ _ (by first | (simp; done) | (simp; omega)))) (by simp), ?_⟩
        repeat (first | (with_reducible first | exact hbel.out | apply below_alloc | apply pw_below_drewN | apply below_drew1) | refine below_set ?_ (by omega))
  · rintro e w' ⟨v, rfl, hQ, hb⟩
    exact ⟨_, rfl, hQ, hb⟩
set_option maxRecDepth 100000 in
set_option maxHeartbeats 1600000 in
theorem par_get_k (s : ByteArray) (hs : s.size ≤ 1000000) (n : Nat) (hn : (wordsB s).length = n) (hn0 : 0 < n) (hn1 : n ≤ 1000001) (h1 : 2 ≤ n) (h2 : n ≤ 17) (w : World) (e0 : ((wd (wordsB s) 0).toList == [103, 101, 116]) = true) (hko : (((wordsB s).take n).drop 1).all keyP = false) :
    Calls Tryd.prog 23 #[.string s] w (TellsC (badA fmtB (-1)) w.heap.size w) := by
  have CW := Lib.hid (fun w => words_c s hs n hn (by omega) w)
  have HS := Lib.hid (fun (x : ByteArray) (h : x ∈ wordsB s) => Nat.le_trans (words_size h) hs)
  have t0 : ((n : Int) == 0) = false := beq_eq_false_iff_ne.2 (by omega)
  have t1 : decide ((2 : Int) ≤ (n : Int)) = true := decide_eq_true (by omega)
  have t2 : decide ((n : Int) ≤ 17) = true := decide_eq_true (by omega)
  have HN0 := Lib.hid hn0
  have CB := Lib.hid (fun w => bad_fmt w)
  have HKO := Lib.hid hko
  clear hko
  have HN := Lib.hid hn
  clear hn
  refine Calls.mono (R := fun e w' => e = .returned (.tuple #[.agg #[.int .i64 8, .slice none 0 0, .int .u32 0, .int .i64 0, .string ⟨#[]⟩, .bool false, .string fmtB], .int .i64 (-1)]) ∧ Below w.heap.size w w') ?_ ?_
  · go_enter Tryd.func23, Tryd.ntmps23
    go_wp2_with (first
      | (go_at_call 28; ((with_reducible refine (CW.out _).mono ?_); rintro e w1 ⟨g, cap, rfl, hcap, hg, hlt, hx, hR, hb1⟩; obtain ⟨hc9, hf9⟩ := bcell hb1; have hz9 := hb1.size; (simp at hz9 hg); have hz8 : w.heap.size < w1.heap.size := (by omega); clear hz9; have x0 := wd_cell hx.out 0 (by have := HN.out; have := HN0.out; omega); clear hx)))
    go_region
    all_goals go_wp2_with (first
      | (go_at_call 33; refine (keys_n (w := w1) (m := n) HN.out hR.out (by omega) (by omega) (by omega) (by omega) HS.out _ (by repeat (first | (with_reducible first | exact Below.refl _ _ | apply below_alloc | apply pw_below_drewN | apply below_drew1) | refine below_set ?_ (Nat.le_refl _)))).mono ?_; rintro e w' ⟨rfl, ⟨nd, rfl⟩⟩; rw [HKO.out])
      | (go_at_call 29; (with_reducible refine (CB.out _).mono ?_); rintro e w2 ⟨rfl, hb2⟩; obtain ⟨hc8, hf8⟩ := bcell hb2))
    all_goals
      clear hc8 hf8
      clear hc9 hf9
      have hblk := Lib.hid (blk_below (blk_new w (.cells #[.int .i64 0, .slice none 0 0, .int .u32 0, .int .i64 0, .string ⟨#[]⟩, .bool false, .string ⟨#[]⟩] 28)) hb1)
      have hbel := Lib.hid (below_step (below_alloc (Below.refl w.heap.size w) (.cells #[.int .i64 0, .slice none 0 0, .int .u32 0, .int .i64 0, .string ⟨#[]⟩, .bool false, .string ⟨#[]⟩] 28)) hb1)
      refine bodyPost_ret (results_ct (p := 2) (u := 3) (ty := 28) (fn := Tryd.f23) ?h0 _ _ w.heap.size 28 #[.int .i64 8, .slice none 0 0, .int .u32 0, .int .i64 0, .string ⟨#[]⟩, .bool false, .string fmtB] (0, 0) _ ?h1 ?h2 Tryd.underlying28 rfl (by kernel_rfl)) ?h3 ?h4
      case h0 => rfl
      case h1 => rfl
      case h3 => rfl
      case h2 =>
        refine put7 (c0 := .int .i64 0) (c1 := .slice none 0 0) (c2 := .int .u32 0) (c3 := .int .i64 0) (c4 := .string ⟨#[]⟩) (c5 := .bool false) (c6 := .string ⟨#[]⟩) ?_
        refine blk_below ?_ hb2
        repeat (first | (with_reducible first | exact hblk.out | apply blk_drewN | apply blk_drew | apply blk_alloc) | refine blk_far ?_ (by show w.heap.size ≠ w1.heap.size; omega) _)
      case h4 =>
        refine ⟨rfl, ?_⟩
        repeat (first | (with_reducible first | exact hbel.out | apply below_alloc | apply pw_below_drewN | apply below_drew1) | refine below_set ?_ (by omega) | refine below_step ?_ hb2)
  · rintro e w' ⟨rfl, hb⟩
    exact ⟨_, rfl, Kd.Q_nil _ _ _ _ _, hb⟩
set_option maxRecDepth 100000 in
set_option maxHeartbeats 1600000 in
theorem par_get_big (s : ByteArray) (hs : s.size ≤ 1000000) (n : Nat) (hn : (wordsB s).length = n) (hn0 : 0 < n) (hn1 : n ≤ 1000001) (h2 : 17 < n) (w : World) (e0 : ((wd (wordsB s) 0).toList == [103, 101, 116]) = true) :
    Calls Tryd.prog 23 #[.string s] w (TellsC (badA fmtB (-1)) w.heap.size w) := by
  have CW := Lib.hid (fun w => words_c s hs n hn (by omega) w)
  have HS := Lib.hid (fun (x : ByteArray) (h : x ∈ wordsB s) => Nat.le_trans (words_size h) hs)
  have t0 : ((n : Int) == 0) = false := beq_eq_false_iff_ne.2 (by omega)
  have t1 : decide ((2 : Int) ≤ (n : Int)) = true := decide_eq_true (by omega)
  have t2 : decide ((n : Int) ≤ 17) = false := decide_eq_false (by omega)
  have HN0 := Lib.hid hn0
  have CB := Lib.hid (fun w => bad_fmt w)
  have HN := Lib.hid hn
  clear hn h2
  refine Calls.mono (R := fun e w' => e = .returned (.tuple #[.agg #[.int .i64 8, .slice none 0 0, .int .u32 0, .int .i64 0, .string ⟨#[]⟩, .bool false, .string fmtB], .int .i64 (-1)]) ∧ Below w.heap.size w w') ?_ ?_
  · go_enter Tryd.func23, Tryd.ntmps23
    go_wp2_with (first
      | (go_at_call 28; ((with_reducible refine (CW.out _).mono ?_); rintro e w1 ⟨g, cap, rfl, hcap, hg, hlt, hx, hR, hb1⟩; obtain ⟨hc9, hf9⟩ := bcell hb1; have hz9 := hb1.size; (simp at hz9 hg); have hz8 : w.heap.size < w1.heap.size := (by omega); clear hz9; have x0 := wd_cell hx.out 0 (by have := HN.out; have := HN0.out; omega); clear hx)))
    go_region
    all_goals go_wp2_with (first
      | (go_at_call 29; (with_reducible refine (CB.out _).mono ?_); rintro e w2 ⟨rfl, hb2⟩; obtain ⟨hc8, hf8⟩ := bcell hb2))
    all_goals
      clear hc8 hf8
      clear hc9 hf9
      have hblk := Lib.hid (blk_below (blk_new w (.cells #[.int .i64 0, .slice none 0 0, .int .u32 0, .int .i64 0, .string ⟨#[]⟩, .bool false, .string ⟨#[]⟩] 28)) hb1)
      have hbel := Lib.hid (below_step (below_alloc (Below.refl w.heap.size w) (.cells #[.int .i64 0, .slice none 0 0, .int .u32 0, .int .i64 0, .string ⟨#[]⟩, .bool false, .string ⟨#[]⟩] 28)) hb1)
      refine bodyPost_ret (results_ct (p := 2) (u := 3) (ty := 28) (fn := Tryd.f23) ?h0 _ _ w.heap.size 28 #[.int .i64 8, .slice none 0 0, .int .u32 0, .int .i64 0, .string ⟨#[]⟩, .bool false, .string fmtB] (0, 0) _ ?h1 ?h2 Tryd.underlying28 rfl (by kernel_rfl)) ?h3 ?h4
      case h0 => rfl
      case h1 => rfl
      case h3 => rfl
      case h2 =>
        refine put7 (c0 := .int .i64 0) (c1 := .slice none 0 0) (c2 := .int .u32 0) (c3 := .int .i64 0) (c4 := .string ⟨#[]⟩) (c5 := .bool false) (c6 := .string ⟨#[]⟩) ?_
        refine blk_below ?_ hb2
        repeat (first | (with_reducible first | exact hblk.out | apply blk_drewN | apply blk_drew | apply blk_alloc) | refine blk_far ?_ (by show w.heap.size ≠ w1.heap.size; omega) _)
      case h4 =>
        refine ⟨rfl, ?_⟩
        repeat (first | (with_reducible first | exact hbel.out | apply below_alloc | apply pw_below_drewN | apply below_drew1) | refine below_set ?_ (by omega) | refine below_step ?_ hb2)
  · rintro e w' ⟨rfl, hb⟩
    exact ⟨_, rfl, Kd.Q_nil _ _ _ _ _, hb⟩
set_option maxRecDepth 100000 in
set_option maxHeartbeats 1600000 in
theorem par_get_one (s : ByteArray) (hs : s.size ≤ 1000000) (hn : (wordsB s).length = 1) (w : World) (e0 : ((wd (wordsB s) 0).toList == [103, 101, 116]) = true) :
    Calls Tryd.prog 23 #[.string s] w (TellsC (badA fmtB (-1)) w.heap.size w) := by
  have CW := Lib.hid (fun w => words_c s hs 1 hn (by omega) w)
  have HS := Lib.hid (fun (x : ByteArray) (h : x ∈ wordsB s) => Nat.le_trans (words_size h) hs)
  have CB := Lib.hid (fun w => bad_fmt w)
  have HN := Lib.hid hn
  clear hn
  refine Calls.mono (R := fun e w' => e = .returned (.tuple #[.agg #[.int .i64 8, .slice none 0 0, .int .u32 0, .int .i64 0, .string ⟨#[]⟩, .bool false, .string fmtB], .int .i64 (-1)]) ∧ Below w.heap.size w w') ?_ ?_
  · go_enter Tryd.func23, Tryd.ntmps23
    go_wp2_with (first
      | (go_at_call 28; ((with_reducible refine (CW.out _).mono ?_); rintro e w1 ⟨g, cap, rfl, hcap, hg, hlt, hx, hR, hb1⟩; obtain ⟨hc9, hf9⟩ := bcell hb1; have hz9 := hb1.size; (simp at hz9 hg); have hz8 : w.heap.size < w1.heap.size := (by omega); clear hz9; have x0 := wd_cell hx.out 0 (by have := HN.out; omega); clear hx)))
    go_region
    all_goals go_wp2_with (first
      | (go_at_call 29; (with_reducible refine (CB.out _).mono ?_); rintro e w2 ⟨rfl, hb2⟩; obtain ⟨hc8, hf8⟩ := bcell hb2))
    all_goals
      clear hc8 hf8
      clear hc9 hf9
      have hblk := Lib.hid (blk_below (blk_new w (.cells #[.int .i64 0, .slice none 0 0, .int .u32 0, .int .i64 0, .string ⟨#[]⟩, .bool false, .string ⟨#[]⟩] 28)) hb1)
      have hbel := Lib.hid (below_step (below_alloc (Below.refl w.heap.size w) (.cells #[.int .i64 0, .slice none 0 0, .int .u32 0, .int .i64 0, .string ⟨#[]⟩, .bool false, .string ⟨#[]⟩] 28)) hb1)
      refine bodyPost_ret (results_ct (p := 2) (u := 3) (ty := 28) (fn := Tryd.f23) ?h0 _ _ w.heap.size 28 #[.int .i64 8, .slice none 0 0, .int .u32 0, .int .i64 0, .string ⟨#[]⟩, .bool false, .string fmtB] (0, 0) _ ?h1 ?h2 Tryd.underlying28 rfl (by kernel_rfl)) ?h3 ?h4
      case h0 => rfl
      case h1 => rfl
      case h3 => rfl
      case h2 =>
        refine put7 (c0 := .int .i64 0) (c1 := .slice none 0 0) (c2 := .int .u32 0) (c3 := .int .i64 0) (c4 := .string ⟨#[]⟩) (c5 := .bool false) (c6 := .string ⟨#[]⟩) ?_
        refine blk_below ?_ hb2
        repeat (first | (with_reducible first | exact hblk.out | apply blk_drewN | apply blk_drew | apply blk_alloc) | refine blk_far ?_ (by show w.heap.size ≠ w1.heap.size; omega) _)
      case h4 =>
        refine ⟨rfl, ?_⟩
        repeat (first | (with_reducible first | exact hbel.out | apply below_alloc | apply pw_below_drewN | apply below_drew1) | refine below_set ?_ (by omega) | refine below_step ?_ hb2)
  · rintro e w' ⟨rfl, hb⟩
    exact ⟨_, rfl, Kd.Q_nil _ _ _ _ _, hb⟩
set_option maxRecDepth 100000 in
set_option maxHeartbeats 1600000 in
theorem par_delete_no_k (s : ByteArray) (hs : s.size ≤ 1000000) (hn : (wordsB s).length = 2) (w : World) (e0 : ((wd (wordsB s) 0).toList == [103, 101, 116]) = false) (e1 : ((wd (wordsB s) 0).toList == [115, 101, 116]) = false) (e2 : ((wd (wordsB s) 0).toList == [100, 101, 108, 101, 116, 101]) = true) (hko : (((wordsB s).take 2).drop 1).all keyP = false) :
    Calls Tryd.prog 23 #[.string s] w (TellsC (badA fmtB (-1)) w.heap.size w) := by
  have CW := Lib.hid (fun w => words_c s hs 2 hn (by omega) w)
  have HS := Lib.hid (fun (x : ByteArray) (h : x ∈ wordsB s) => Nat.le_trans (words_size h) hs)
  have CB := Lib.hid (fun w => bad_fmt w)
  have CQ : Hid (∀ (g cap : Nat) (w : World), Calls Tryd.prog 31 #[.slice (some ⟨g, 0, none⟩) 2 cap, .int .i64 2] w fun e w' => e = .returned (.tuple #[.slice (some ⟨g, 0, none⟩) 2 cap, .bool false]) ∧ w = w') := Lib.hid (fun g cap w => quiet_ne g 2 cap 2 w (by omega) (by omega))
  have HKO := Lib.hid hko
  clear hko
  have HN := Lib.hid hn
  clear hn
  refine Calls.mono (R := fun e w' => e = .returned (.tuple #[.agg #[.int .i64 8, .slice none 0 0, .int .u32 0, .int .i64 0, .string ⟨#[]⟩, .bool false, .string fmtB], .int .i64 (-1)]) ∧ Below w.heap.size w w') ?_ ?_
  · go_enter Tryd.func23, Tryd.ntmps23
    go_wp2_with (first
      | (go_at_call 28; ((with_reducible refine (CW.out _).mono ?_); rintro e w1 ⟨g, cap, rfl, hcap, hg, hlt, hx, hR, hb1⟩; obtain ⟨hc9, hf9⟩ := bcell hb1; have hz9 := hb1.size; (simp at hz9 hg); have hz8 : w.heap.size < w1.heap.size := (by omega); clear hz9; have x0 := wd_cell hx.out 0 (by have := HN.out; omega); clear hx))
      | (go_at_call 33; refine (keys_n (w := w1) (m := 2) HN.out hR.out (by omega) (by omega) (by omega) (by omega) HS.out _ (by repeat (first | (with_reducible first | exact Below.refl _ _ | apply below_alloc | apply pw_below_drewN | apply below_drew1) | refine below_set ?_ (Nat.le_refl _)))).mono ?_; rintro e w' ⟨rfl, ⟨nd, rfl⟩⟩; rw [HKO.out])
      | (go_at_call 31; (with_reducible refine (CQ.out _ _ _).mono ?_); rintro e w' ⟨rfl, rfl⟩)
      | (go_at_call 29; (with_reducible refine (CB.out _).mono ?_); rintro e w2 ⟨rfl, hb2⟩; obtain ⟨hc8, hf8⟩ := bcell hb2))
    all_goals
      clear hc8 hf8
      clear hc9 hf9
      have hblk := Lib.hid (blk_below (blk_new w (.cells #[.int .i64 0, .slice none 0 0, .int .u32 0, .int .i64 0, .string ⟨#[]⟩, .bool false, .string ⟨#[]⟩] 28)) hb1)
      have hbel := Lib.hid (below_step (below_alloc (Below.refl w.heap.size w) (.cells #[.int .i64 0, .slice none 0 0, .int .u32 0, .int .i64 0, .string ⟨#[]⟩, .bool false, .string ⟨#[]⟩] 28)) hb1)
      refine bodyPost_ret (results_ct (p := 2) (u := 3) (ty := 28) (fn := Tryd.f23) ?h0 _ _ w.heap.size 28 #[.int .i64 8, .slice none 0 0, .int .u32 0, .int .i64 0, .string ⟨#[]⟩, .bool false, .string fmtB] (0, 0) _ ?h1 ?h2 Tryd.underlying28 rfl (by kernel_rfl)) ?h3 ?h4
      case h0 => rfl
      case h1 => rfl
      case h3 => rfl
      case h2 =>
        refine put7 (c0 := .int .i64 0) (c1 := .slice none 0 0) (c2 := .int .u32 0) (c3 := .int .i64 0) (c4 := .string ⟨#[]⟩) (c5 := .bool false) (c6 := .string ⟨#[]⟩) ?_
        refine blk_below ?_ hb2
        repeat (first | (with_reducible first | exact hblk.out | apply blk_drewN | apply blk_drew | apply blk_alloc) | refine blk_far ?_ (by show w.heap.size ≠ w1.heap.size; omega) _)
      case h4 =>
        refine ⟨rfl, ?_⟩
        repeat (first | (with_reducible first | exact hbel.out | apply below_alloc | apply pw_below_drewN | apply below_drew1) | refine below_set ?_ (by omega) | refine below_step ?_ hb2)
  · rintro e w' ⟨rfl, hb⟩
    exact ⟨_, rfl, Kd.Q_nil _ _ _ _ _, hb⟩
set_option maxRecDepth 100000 in
set_option maxHeartbeats 1600000 in
theorem par_delete_no (s : ByteArray) (hs : s.size ≤ 1000000) (hn : (wordsB s).length = 2) (w : World) (e0 : ((wd (wordsB s) 0).toList == [103, 101, 116]) = false) (e1 : ((wd (wordsB s) 0).toList == [115, 101, 116]) = false) (e2 : ((wd (wordsB s) 0).toList == [100, 101, 108, 101, 116, 101]) = true) (hko : (((wordsB s).take 2).drop 1).all keyP = true) :
    Calls Tryd.prog 23 #[.string s] w (TellsC (3, ((wordsB s).take 2).drop 1, 0, 0, ⟨#[]⟩, false, ⟨#[]⟩, -1) w.heap.size w) := by
  have CW := Lib.hid (fun w => words_c s hs 2 hn (by omega) w)
  have HS := Lib.hid (fun (x : ByteArray) (h : x ∈ wordsB s) => Nat.le_trans (words_size h) hs)
  have CQ : Hid (∀ (g cap : Nat) (w : World), Calls Tryd.prog 31 #[.slice (some ⟨g, 0, none⟩) 2 cap, .int .i64 2] w fun e w' => e = .returned (.tuple #[.slice (some ⟨g, 0, none⟩) 2 cap, .bool false]) ∧ w = w') := Lib.hid (fun g cap w => quiet_ne g 2 cap 2 w (by omega) (by omega))
  have HKO := Lib.hid hko
  clear hko
  have HN := Lib.hid hn
  clear hn
  refine Calls.mono (R := fun e w' => ∃ v, e = .returned (.tuple #[.agg #[.int .i64 3, v, .int .u32 0, .int .i64 0, .string ⟨#[]⟩, .bool false, .string ⟨#[]⟩], .int .i64 (-1)]) ∧ Kd.Q Kd.string 9 w' w.heap.size (fun _ => True) v (((wordsB s).take 2).drop 1) ∧ Below w.heap.size w w') ?_ ?_
  · go_enter Tryd.func23, Tryd.ntmps23
    go_wp2_with (first
      | (go_at_call 28; ((with_reducible refine (CW.out _).mono ?_); rintro e w1 ⟨g, cap, rfl, hcap, hg, hlt, hx, hR, hb1⟩; obtain ⟨hc9, hf9⟩ := bcell hb1; have hz9 := hb1.size; (simp at hz9 hg); have hz8 : w.heap.size < w1.heap.size := (by omega); clear hz9; have x0 := wd_cell hx.out 0 (by have := HN.out; omega); clear hx))
      | (go_at_call 33; refine (keys_n (w := w1) (m := 2) HN.out hR.out (by omega) (by omega) (by omega) (by omega) HS.out _ (by repeat (first | (with_reducible first | exact Below.refl _ _ | apply below_alloc | apply pw_below_drewN | apply below_drew1) | refine below_set ?_ (Nat.le_refl _)))).mono ?_; rintro e w' ⟨rfl, ⟨nd, rfl⟩⟩; rw [HKO.out])
      | (go_at_call 31; (with_reducible refine (CQ.out _ _ _).mono ?_); rintro e w' ⟨rfl, rfl⟩))
    all_goals
      clear hc9 hf9
      have hblk := Lib.hid (blk_below (blk_new w (.cells #[.int .i64 0, .slice none 0 0, .int .u32 0, .int .i64 0, .string ⟨#[]⟩, .bool false, .string ⟨#[]⟩] 28)) hb1)
      have hbel := Lib.hid (below_step (below_alloc (Below.refl w.heap.size w) (.cells #[.int .i64 0, .slice none 0 0, .int .u32 0, .int .i64 0, .string ⟨#[]⟩, .bool false, .string ⟨#[]⟩] 28)) hb1)
      refine bodyPost_ret (results_ct (p := 2) (u := 3) (ty := 28) (fn := Tryd.f23) ?h0 _ _ w.heap.size 28 #[.int .i64 3, (.slice (some ⟨g, 1, none⟩) (1) (cap - 1)), .int .u32 0, .int .i64 0, .string ⟨#[]⟩, .bool false, .string ⟨#[]⟩] (0, 0) _ ?h1 ?h2 Tryd.underlying28 rfl (by kernel_rfl)) ?h3 ?h4
      case h0 => rfl
      case h1 => rfl
      case h3 => rfl
      case h2 =>
        refine put7 (c0 := .int .i64 0) (c1 := .slice none 0 0) (c2 := .int .u32 0) (c3 := .int .i64 0) (c4 := .string ⟨#[]⟩) (c5 := .bool false) (c6 := .string ⟨#[]⟩) ?_
        repeat (first | (with_reducible first | exact hblk.out | apply blk_drewN | apply blk_drew | apply blk_alloc) | refine blk_far ?_ (by show w.heap.size ≠ w1.heap.size; omega) _)
      case h4 =>
        refine ⟨_, rfl, Q_same (Q_n (m := 2) HN.out hR.out (by omega) (by omega) (by omega)) (by repeat (first | (with_reducible first | exact same_refl _ _ | apply same_drewN | apply same_drew | apply same_alloc) | refine same_set ?_ _ (by first | (simp; done) | (simp; omega)))) (by simp), ?_⟩
        repeat (first | (with_reducible first | exact hbel.out | apply below_alloc | apply pw_below_drewN | apply below_drew1) | refine below_set ?_ (by omega))
  · rintro e w' ⟨v, rfl, hQ, hb⟩
    exact ⟨_, rfl, hQ, hb⟩
set_option maxRecDepth 100000 in
set_option maxHeartbeats 1600000 in
theorem par_delete_yes_k (s : ByteArray) (hs : s.size ≤ 1000000) (hn : (wordsB s).length = 3) (w : World) (e0 : ((wd (wordsB s) 0).toList == [103, 101, 116]) = false) (e1 : ((wd (wordsB s) 0).toList == [115, 101, 116]) = false) (e2 : ((wd (wordsB s) 0).toList == [100, 101, 108, 101, 116, 101]) = true) (hnr : ((wd (wordsB s) 2).toList == [110, 111, 114, 101, 112, 108, 121]) = true) (hko : (((wordsB s).take 2).drop 1).all keyP = false) :
    Calls Tryd.prog 23 #[.string s] w (TellsC (badA fmtB (-1)) w.heap.size w) := by
  have CW := Lib.hid (fun w => words_c s hs 3 hn (by omega) w)
  have HS := Lib.hid (fun (x : ByteArray) (h : x ∈ wordsB s) => Nat.le_trans (words_size h) hs)
  have CB := Lib.hid (fun w => bad_fmt w)
  have CQ : Hid (∀ (g cap : Nat) (w : World) (_ : w.cell? ⟨g, 2, none⟩ = some (.string (wd (wordsB s) 2))) (_ : 2 ≤ cap), Calls Tryd.prog 31 #[.slice (some ⟨g, 0, none⟩) 3 cap, .int .i64 2] w fun e w' => e = .returned (.tuple #[.slice (some ⟨g, 0, none⟩) 2 cap, .bool true]) ∧ w = w') := Lib.hid (fun g cap w hc hm => quiet_yes g cap 2 (wd (wordsB s) 2) w hc hnr (by omega) hm)
  clear hnr
  have HKO := Lib.hid hko
  clear hko
  have HN := Lib.hid hn
  clear hn
  refine Calls.mono (R := fun e w' => e = .returned (.tuple #[.agg #[.int .i64 8, .slice none 0 0, .int .u32 0, .int .i64 0, .string ⟨#[]⟩, .bool false, .string fmtB], .int .i64 (-1)]) ∧ Below w.heap.size w w') ?_ ?_
  · go_enter Tryd.func23, Tryd.ntmps23
    go_wp2_with (first
      | (go_at_call 28; ((with_reducible refine (CW.out _).mono ?_); rintro e w1 ⟨g, cap, rfl, hcap, hg, hlt, hx, hR, hb1⟩; obtain ⟨hc9, hf9⟩ := bcell hb1; have hz9 := hb1.size; (simp at hz9 hg); have hz8 : w.heap.size < w1.heap.size := (by omega); clear hz9; have x0 := wd_cell hx.out 0 (by have := HN.out; omega); have x2 := wd_cell hx.out 2 (by have := HN.out; omega); clear hx))
      | (go_at_call 33; refine (keys_n (w := w1) (m := 2) HN.out hR.out (by omega) (by omega) (by omega) (by omega) HS.out _ (by repeat (first | (with_reducible first | exact Below.refl _ _ | apply below_alloc | apply pw_below_drewN | apply below_drew1) | refine below_set ?_ (Nat.le_refl _)))).mono ?_; rintro e w' ⟨rfl, ⟨nd, rfl⟩⟩; rw [HKO.out])
      | (go_at_call 31; (with_reducible refine (CQ.out _ _ _ (by go_simp) (by omega)).mono ?_); rintro e w' ⟨rfl, rfl⟩)
      | (go_at_call 29; (with_reducible refine (CB.out _).mono ?_); rintro e w2 ⟨rfl, hb2⟩; obtain ⟨hc8, hf8⟩ := bcell hb2))
    all_goals
      clear hc8 hf8
      clear hc9 hf9
      have hblk := Lib.hid (blk_below (blk_new w (.cells #[.int .i64 0, .slice none 0 0, .int .u32 0, .int .i64 0, .string ⟨#[]⟩, .bool false, .string ⟨#[]⟩] 28)) hb1)
      have hbel := Lib.hid (below_step (below_alloc (Below.refl w.heap.size w) (.cells #[.int .i64 0, .slice none 0 0, .int .u32 0, .int .i64 0, .string ⟨#[]⟩, .bool false, .string ⟨#[]⟩] 28)) hb1)
      refine bodyPost_ret (results_ct (p := 2) (u := 3) (ty := 28) (fn := Tryd.f23) ?h0 _ _ w.heap.size 28 #[.int .i64 8, .slice none 0 0, .int .u32 0, .int .i64 0, .string ⟨#[]⟩, .bool false, .string fmtB] (0, 0) _ ?h1 ?h2 Tryd.underlying28 rfl (by kernel_rfl)) ?h3 ?h4
      case h0 => rfl
      case h1 => rfl
      case h3 => rfl
      case h2 =>
        refine put7 (c0 := .int .i64 0) (c1 := .slice none 0 0) (c2 := .int .u32 0) (c3 := .int .i64 0) (c4 := .string ⟨#[]⟩) (c5 := .bool false) (c6 := .string ⟨#[]⟩) ?_
        refine blk_below ?_ hb2
        repeat (first | (with_reducible first | exact hblk.out | apply blk_drewN | apply blk_drew | apply blk_alloc) | refine blk_far ?_ (by show w.heap.size ≠ w1.heap.size; omega) _)
      case h4 =>
        refine ⟨rfl, ?_⟩
        repeat (first | (with_reducible first | exact hbel.out | apply below_alloc | apply pw_below_drewN | apply below_drew1) | refine below_set ?_ (by omega) | refine below_step ?_ hb2)
  · rintro e w' ⟨rfl, hb⟩
    exact ⟨_, rfl, Kd.Q_nil _ _ _ _ _, hb⟩
set_option maxRecDepth 100000 in
set_option maxHeartbeats 1600000 in
theorem par_delete_yes (s : ByteArray) (hs : s.size ≤ 1000000) (hn : (wordsB s).length = 3) (w : World) (e0 : ((wd (wordsB s) 0).toList == [103, 101, 116]) = false) (e1 : ((wd (wordsB s) 0).toList == [115, 101, 116]) = false) (e2 : ((wd (wordsB s) 0).toList == [100, 101, 108, 101, 116, 101]) = true) (hnr : ((wd (wordsB s) 2).toList == [110, 111, 114, 101, 112, 108, 121]) = true) (hko : (((wordsB s).take 2).drop 1).all keyP = true) :
    Calls Tryd.prog 23 #[.string s] w (TellsC (3, ((wordsB s).take 2).drop 1, 0, 0, ⟨#[]⟩, true, ⟨#[]⟩, -1) w.heap.size w) := by
  have CW := Lib.hid (fun w => words_c s hs 3 hn (by omega) w)
  have HS := Lib.hid (fun (x : ByteArray) (h : x ∈ wordsB s) => Nat.le_trans (words_size h) hs)
  have CQ : Hid (∀ (g cap : Nat) (w : World) (_ : w.cell? ⟨g, 2, none⟩ = some (.string (wd (wordsB s) 2))) (_ : 2 ≤ cap), Calls Tryd.prog 31 #[.slice (some ⟨g, 0, none⟩) 3 cap, .int .i64 2] w fun e w' => e = .returned (.tuple #[.slice (some ⟨g, 0, none⟩) 2 cap, .bool true]) ∧ w = w') := Lib.hid (fun g cap w hc hm => quiet_yes g cap 2 (wd (wordsB s) 2) w hc hnr (by omega) hm)
  clear hnr
  have HKO := Lib.hid hko
  clear hko
  have HN := Lib.hid hn
  clear hn
  refine Calls.mono (R := fun e w' => ∃ v, e = .returned (.tuple #[.agg #[.int .i64 3, v, .int .u32 0, .int .i64 0, .string ⟨#[]⟩, .bool true, .string ⟨#[]⟩], .int .i64 (-1)]) ∧ Kd.Q Kd.string 9 w' w.heap.size (fun _ => True) v (((wordsB s).take 2).drop 1) ∧ Below w.heap.size w w') ?_ ?_
  · go_enter Tryd.func23, Tryd.ntmps23
    go_wp2_with (first
      | (go_at_call 28; ((with_reducible refine (CW.out _).mono ?_); rintro e w1 ⟨g, cap, rfl, hcap, hg, hlt, hx, hR, hb1⟩; obtain ⟨hc9, hf9⟩ := bcell hb1; have hz9 := hb1.size; (simp at hz9 hg); have hz8 : w.heap.size < w1.heap.size := (by omega); clear hz9; have x0 := wd_cell hx.out 0 (by have := HN.out; omega); have x2 := wd_cell hx.out 2 (by have := HN.out; omega); clear hx))
      | (go_at_call 33; refine (keys_n (w := w1) (m := 2) HN.out hR.out (by omega) (by omega) (by omega) (by omega) HS.out _ (by repeat (first | (with_reducible first | exact Below.refl _ _ | apply below_alloc | apply pw_below_drewN | apply below_drew1) | refine below_set ?_ (Nat.le_refl _)))).mono ?_; rintro e w' ⟨rfl, ⟨nd, rfl⟩⟩; rw [HKO.out])
      | (go_at_call 31; (with_reducible refine (CQ.out _ _ _ (by go_simp) (by omega)).mono ?_); rintro e w' ⟨rfl, rfl⟩))
    all_goals
      clear hc9 hf9
      have hblk := Lib.hid (blk_below (blk_new w (.cells #[.int .i64 0, .slice none 0 0, .int .u32 0, .int .i64 0, .string ⟨#[]⟩, .bool false, .string ⟨#[]⟩] 28)) hb1)
      have hbel := Lib.hid (below_step (below_alloc (Below.refl w.heap.size w) (.cells #[.int .i64 0, .slice none 0 0, .int .u32 0, .int .i64 0, .string ⟨#[]⟩, .bool false, .string ⟨#[]⟩] 28)) hb1)
      refine bodyPost_ret (results_ct (p := 2) (u := 3) (ty := 28) (fn := Tryd.f23) ?h0 _ _ w.heap.size 28 #[.int .i64 3, (.slice (some ⟨g, 1, none⟩) (1) (cap - 1)), .int .u32 0, .int .i64 0, .string ⟨#[]⟩, .bool true, .string ⟨#[]⟩] (0, 0) _ ?h1 ?h2 Tryd.underlying28 rfl (by kernel_rfl)) ?h3 ?h4
      case h0 => rfl
      case h1 => rfl
      case h3 => rfl
      case h2 =>
        refine put7 (c0 := .int .i64 0) (c1 := .slice none 0 0) (c2 := .int .u32 0) (c3 := .int .i64 0) (c4 := .string ⟨#[]⟩) (c5 := .bool false) (c6 := .string ⟨#[]⟩) ?_
        repeat (first | (with_reducible first | exact hblk.out | apply blk_drewN | apply blk_drew | apply blk_alloc) | refine blk_far ?_ (by show w.heap.size ≠ w1.heap.size; omega) _)
      case h4 =>
        refine ⟨_, rfl, Q_same (Q_n (m := 2) HN.out hR.out (by omega) (by omega) (by omega)) (by repeat (first | (with_reducible first | exact same_refl _ _ | apply same_drewN | apply same_drew | apply same_alloc) | refine same_set ?_ _ (by first | (simp; done) | (simp; omega)))) (by simp), ?_⟩
        repeat (first | (with_reducible first | exact hbel.out | apply below_alloc | apply pw_below_drewN | apply below_drew1) | refine below_set ?_ (by omega))
  · rintro e w' ⟨v, rfl, hQ, hb⟩
    exact ⟨_, rfl, hQ, hb⟩
set_option maxRecDepth 100000 in
set_option maxHeartbeats 1600000 in
theorem par_delete_x (s : ByteArray) (hs : s.size ≤ 1000000) (hn : (wordsB s).length = 3) (w : World) (e0 : ((wd (wordsB s) 0).toList == [103, 101, 116]) = false) (e1 : ((wd (wordsB s) 0).toList == [115, 101, 116]) = false) (e2 : ((wd (wordsB s) 0).toList == [100, 101, 108, 101, 116, 101]) = true) (hnr : ((wd (wordsB s) 2).toList == [110, 111, 114, 101, 112, 108, 121]) = false) :
    Calls Tryd.prog 23 #[.string s] w (TellsC (badA fmtB (-1)) w.heap.size w) := by
  have CW := Lib.hid (fun w => words_c s hs 3 hn (by omega) w)
  have HS := Lib.hid (fun (x : ByteArray) (h : x ∈ wordsB s) => Nat.le_trans (words_size h) hs)
  have CB := Lib.hid (fun w => bad_fmt w)
  have CQ : Hid (∀ (g cap : Nat) (w : World) (_ : w.cell? ⟨g, 2, none⟩ = some (.string (wd (wordsB s) 2))), Calls Tryd.prog 31 #[.slice (some ⟨g, 0, none⟩) 3 cap, .int .i64 2] w fun e w' => e = .returned (.tuple #[.slice (some ⟨g, 0, none⟩) 3 cap, .bool false]) ∧ w = w') := Lib.hid (fun g cap w hc => quiet_no g cap 2 (wd (wordsB s) 2) w hc hnr (by omega))
  clear hnr
  have HN := Lib.hid hn
  clear hn
  refine Calls.mono (R := fun e w' => e = .returned (.tuple #[.agg #[.int .i64 8, .slice none 0 0, .int .u32 0, .int .i64 0, .string ⟨#[]⟩, .bool false, .string fmtB], .int .i64 (-1)]) ∧ Below w.heap.size w w') ?_ ?_
  · go_enter Tryd.func23, Tryd.ntmps23
    go_wp2_with (first
      | (go_at_call 28; ((with_reducible refine (CW.out _).mono ?_); rintro e w1 ⟨g, cap, rfl, hcap, hg, hlt, hx, hR, hb1⟩; obtain ⟨hc9, hf9⟩ := bcell hb1; have hz9 := hb1.size; (simp at hz9 hg); have hz8 : w.heap.size < w1.heap.size := (by omega); clear hz9; have x0 := wd_cell hx.out 0 (by have := HN.out; omega); have x2 := wd_cell hx.out 2 (by have := HN.out; omega); clear hx))
      | (go_at_call 31; (with_reducible refine (CQ.out _ _ _ (by go_simp)).mono ?_); rintro e w' ⟨rfl, rfl⟩)
      | (go_at_call 29; (with_reducible refine (CB.out _).mono ?_); rintro e w2 ⟨rfl, hb2⟩; obtain ⟨hc8, hf8⟩ := bcell hb2))
    all_goals
      clear hc8 hf8
      clear hc9 hf9
      have hblk := Lib.hid (blk_below (blk_new w (.cells #[.int .i64 0, .slice none 0 0, .int .u32 0, .int .i64 0, .string ⟨#[]⟩, .bool false, .string ⟨#[]⟩] 28)) hb1)
      have hbel := Lib.hid (below_step (below_alloc (Below.refl w.heap.size w) (.cells #[.int .i64 0, .slice none 0 0, .int .u32 0, .int .i64 0, .string ⟨#[]⟩, .bool false, .string ⟨#[]⟩] 28)) hb1)
      refine bodyPost_ret (results_ct (p := 2) (u := 3) (ty := 28) (fn := Tryd.f23) ?h0 _ _ w.heap.size 28 #[.int .i64 8, .slice none 0 0, .int .u32 0, .int .i64 0, .string ⟨#[]⟩, .bool false, .string fmtB] (0, 0) _ ?h1 ?h2 Tryd.underlying28 rfl (by kernel_rfl)) ?h3 ?h4
      case h0 => rfl
      case h1 => rfl
      case h3 => rfl
      case h2 =>
        refine put7 (c0 := .int .i64 0) (c1 := .slice none 0 0) (c2 := .int .u32 0) (c3 := .int .i64 0) (c4 := .string ⟨#[]⟩) (c5 := .bool false) (c6 := .string ⟨#[]⟩) ?_
        refine blk_below ?_ hb2
        repeat (first | (with_reducible first | exact hblk.out | apply blk_drewN | apply blk_drew | apply blk_alloc) | refine blk_far ?_ (by show w.heap.size ≠ w1.heap.size; omega) _)
      case h4 =>
        refine ⟨rfl, ?_⟩
        repeat (first | (with_reducible first | exact hbel.out | apply below_alloc | apply pw_below_drewN | apply below_drew1) | refine below_set ?_ (by omega) | refine below_step ?_ hb2)
  · rintro e w' ⟨rfl, hb⟩
    exact ⟨_, rfl, Kd.Q_nil _ _ _ _ _, hb⟩
set_option maxRecDepth 100000 in
set_option maxHeartbeats 1600000 in
theorem par_delete_n (s : ByteArray) (hs : s.size ≤ 1000000) (n : Nat) (hn : (wordsB s).length = n) (hn0 : 0 < n) (hn1 : n ≤ 1000001) (h1 : n ≠ 2) (h2 : n ≠ 3) (w : World) (e0 : ((wd (wordsB s) 0).toList == [103, 101, 116]) = false) (e1 : ((wd (wordsB s) 0).toList == [115, 101, 116]) = false) (e2 : ((wd (wordsB s) 0).toList == [100, 101, 108, 101, 116, 101]) = true) :
    Calls Tryd.prog 23 #[.string s] w (TellsC (badA fmtB (-1)) w.heap.size w) := by
  have CW := Lib.hid (fun w => words_c s hs n hn (by omega) w)
  have HS := Lib.hid (fun (x : ByteArray) (h : x ∈ wordsB s) => Nat.le_trans (words_size h) hs)
  have t0 : ((n : Int) == 0) = false := beq_eq_false_iff_ne.2 (by omega)
  have t1 : ((n : Int) == 2) = false := beq_eq_false_iff_ne.2 (by omega)
  have t2 : Hid (n ≠ 3) := Lib.hid h2
  have HN0 := Lib.hid hn0
  have CB := Lib.hid (fun w => bad_fmt w)
  have CQ : Hid (∀ (g cap : Nat) (w : World), Calls Tryd.prog 31 #[.slice (some ⟨g, 0, none⟩) n cap, .int .i64 2] w fun e w' => e = .returned (.tuple #[.slice (some ⟨g, 0, none⟩) n cap, .bool false]) ∧ w = w') := Lib.hid (fun g cap w => quiet_ne g n cap 2 w (by omega) (by omega))
  have HN := Lib.hid hn
  clear hn h1 h2
  refine Calls.mono (R := fun e w' => e = .returned (.tuple #[.agg #[.int .i64 8, .slice none 0 0, .int .u32 0, .int .i64 0, .string ⟨#[]⟩, .bool false, .string fmtB], .int .i64 (-1)]) ∧ Below w.heap.size w w') ?_ ?_
  · go_enter Tryd.func23, Tryd.ntmps23
    go_wp2_with (first
      | (go_at_call 28; ((with_reducible refine (CW.out _).mono ?_); rintro e w1 ⟨g, cap, rfl, hcap, hg, hlt, hx, hR, hb1⟩; obtain ⟨hc9, hf9⟩ := bcell hb1; have hz9 := hb1.size; (simp at hz9 hg); have hz8 : w.heap.size < w1.heap.size := (by omega); clear hz9; have x0 := wd_cell hx.out 0 (by have := HN.out; have := HN0.out; omega); clear hx))
      | (go_at_call 31; (with_reducible refine (CQ.out _ _ _).mono ?_); rintro e w' ⟨rfl, rfl⟩)
      | (go_at_call 29; (with_reducible refine (CB.out _).mono ?_); rintro e w2 ⟨rfl, hb2⟩; obtain ⟨hc8, hf8⟩ := bcell hb2))
    all_goals
      clear hc8 hf8
      clear hc9 hf9
      have hblk := Lib.hid (blk_below (blk_new w (.cells #[.int .i64 0, .slice none 0 0, .int .u32 0, .int .i64 0, .string ⟨#[]⟩, .bool false, .string ⟨#[]⟩] 28)) hb1)
      have hbel := Lib.hid (below_step (below_alloc (Below.refl w.heap.size w) (.cells #[.int .i64 0, .slice none 0 0, .int .u32 0, .int .i64 0, .string ⟨#[]⟩, .bool false, .string ⟨#[]⟩] 28)) hb1)
      refine bodyPost_ret (results_ct (p := 2) (u := 3) (ty := 28) (fn := Tryd.f23) ?h0 _ _ w.heap.size 28 #[.int .i64 8, .slice none 0 0, .int .u32 0, .int .i64 0, .string ⟨#[]⟩, .bool false, .string fmtB] (0, 0) _ ?h1 ?h2 Tryd.underlying28 rfl (by kernel_rfl)) ?h3 ?h4
      case h0 => rfl
      case h1 => rfl
      case h3 => rfl
      case h2 =>
        refine put7 (c0 := .int .i64 0) (c1 := .slice none 0 0) (c2 := .int .u32 0) (c3 := .int .i64 0) (c4 := .string ⟨#[]⟩) (c5 := .bool false) (c6 := .string ⟨#[]⟩) ?_
        refine blk_below ?_ hb2
        repeat (first | (with_reducible first | exact hblk.out | apply blk_drewN | apply blk_drew | apply blk_alloc) | refine blk_far ?_ (by show w.heap.size ≠ w1.heap.size; omega) _)
      case h4 =>
        refine ⟨rfl, ?_⟩
        repeat (first | (with_reducible first | exact hbel.out | apply below_alloc | apply pw_below_drewN | apply below_drew1) | refine below_set ?_ (by omega) | refine below_step ?_ hb2)
  · rintro e w' ⟨rfl, hb⟩
    exact ⟨_, rfl, Kd.Q_nil _ _ _ _ _, hb⟩
set_option maxRecDepth 100000 in
set_option maxHeartbeats 1600000 in
theorem par_touch_no_m (s : ByteArray) (hs : s.size ≤ 1000000) (hn : (wordsB s).length = 3) (w : World) (e0 : ((wd (wordsB s) 0).toList == [103, 101, 116]) = false) (e1 : ((wd (wordsB s) 0).toList == [115, 101, 116]) = false) (e2 : ((wd (wordsB s) 0).toList == [100, 101, 108, 101, 116, 101]) = false) (e3 : ((wd (wordsB s) 0).toList == [116, 111, 117, 99, 104]) = true) (hmo : momB (wd (wordsB s) 2) = false) :
    Calls Tryd.prog 23 #[.string s] w (TellsC (badA fmtB (-1)) w.heap.size w) := by
  have CW := Lib.hid (fun w => words_c s hs 3 hn (by omega) w)
  have HS := Lib.hid (fun (x : ByteArray) (h : x ∈ wordsB s) => Nat.le_trans (words_size h) hs)
  have CM := Lib.hid (fun w => moment_c (wd (wordsB s) 2) (Nat.le_trans (words_size (wd_mem 2 (by omega))) hs) w)
  rw [hmo] at CM
  clear hmo
  have CB := Lib.hid (fun w => bad_fmt w)
  have CQ : Hid (∀ (g cap : Nat) (w : World), Calls Tryd.prog 31 #[.slice (some ⟨g, 0, none⟩) 3 cap, .int .i64 3] w fun e w' => e = .returned (.tuple #[.slice (some ⟨g, 0, none⟩) 3 cap, .bool false]) ∧ w = w') := Lib.hid (fun g cap w => quiet_ne g 3 cap 3 w (by omega) (by omega))
  have HN := Lib.hid hn
  clear hn
  refine Calls.mono (R := fun e w' => e = .returned (.tuple #[.agg #[.int .i64 8, .slice none 0 0, .int .u32 0, .int .i64 0, .string ⟨#[]⟩, .bool false, .string fmtB], .int .i64 (-1)]) ∧ Below w.heap.size w w') ?_ ?_
  · go_enter Tryd.func23, Tryd.ntmps23
    go_wp2_with (first
      | (go_at_call 28; ((with_reducible refine (CW.out _).mono ?_); rintro e w1 ⟨g, cap, rfl, hcap, hg, hlt, hx, hR, hb1⟩; obtain ⟨hc9, hf9⟩ := bcell hb1; have hz9 := hb1.size; (simp at hz9 hg); have hz8 : w.heap.size < w1.heap.size := (by omega); clear hz9; have x0 := wd_cell hx.out 0 (by have := HN.out; omega); have x2 := wd_cell hx.out 2 (by have := HN.out; omega); clear hx))
      | (go_at_call 32; (with_reducible refine (CM.out _).mono ?_); rintro e w' ⟨rfl, ⟨nd, rfl⟩⟩)
      | (go_at_call 31; (with_reducible refine (CQ.out _ _ _).mono ?_); rintro e w' ⟨rfl, rfl⟩)
      | (go_at_call 29; (with_reducible refine (CB.out _).mono ?_); rintro e w2 ⟨rfl, hb2⟩; obtain ⟨hc8, hf8⟩ := bcell hb2))
    all_goals
      clear hc8 hf8
      clear hc9 hf9
      have hblk := Lib.hid (blk_below (blk_new w (.cells #[.int .i64 0, .slice none 0 0, .int .u32 0, .int .i64 0, .string ⟨#[]⟩, .bool false, .string ⟨#[]⟩] 28)) hb1)
      have hbel := Lib.hid (below_step (below_alloc (Below.refl w.heap.size w) (.cells #[.int .i64 0, .slice none 0 0, .int .u32 0, .int .i64 0, .string ⟨#[]⟩, .bool false, .string ⟨#[]⟩] 28)) hb1)
      refine bodyPost_ret (results_ct (p := 2) (u := 3) (ty := 28) (fn := Tryd.f23) ?h0 _ _ w.heap.size 28 #[.int .i64 8, .slice none 0 0, .int .u32 0, .int .i64 0, .string ⟨#[]⟩, .bool false, .string fmtB] (0, 0) _ ?h1 ?h2 Tryd.underlying28 rfl (by kernel_rfl)) ?h3 ?h4
      case h0 => rfl
      case h1 => rfl
      case h3 => rfl
      case h2 =>
        refine put7 (c0 := .int .i64 0) (c1 := .slice none 0 0) (c2 := .int .u32 0) (c3 := .int .i64 0) (c4 := .string ⟨#[]⟩) (c5 := .bool false) (c6 := .string ⟨#[]⟩) ?_
        refine blk_below ?_ hb2
        repeat (first | (with_reducible first | exact hblk.out | apply blk_drewN | apply blk_drew | apply blk_alloc) | refine blk_far ?_ (by show w.heap.size ≠ w1.heap.size; omega) _)
      case h4 =>
        refine ⟨rfl, ?_⟩
        repeat (first | (with_reducible first | exact hbel.out | apply below_alloc | apply pw_below_drewN | apply below_drew1) | refine below_set ?_ (by omega) | refine below_step ?_ hb2)
  · rintro e w' ⟨rfl, hb⟩
    exact ⟨_, rfl, Kd.Q_nil _ _ _ _ _, hb⟩
set_option maxRecDepth 100000 in
set_option maxHeartbeats 1600000 in
theorem par_touch_no_k (s : ByteArray) (hs : s.size ≤ 1000000) (hn : (wordsB s).length = 3) (w : World) (e0 : ((wd (wordsB s) 0).toList == [103, 101, 116]) = false) (e1 : ((wd (wordsB s) 0).toList == [115, 101, 116]) = false) (e2 : ((wd (wordsB s) 0).toList == [100, 101, 108, 101, 116, 101]) = false) (e3 : ((wd (wordsB s) 0).toList == [116, 111, 117, 99, 104]) = true) (hmo : momB (wd (wordsB s) 2) = true) (hko : (((wordsB s).take 2).drop 1).all keyP = false) :
    Calls Tryd.prog 23 #[.string s] w (TellsC (badA fmtB (-1)) w.heap.size w) := by
  have CW := Lib.hid (fun w => words_c s hs 3 hn (by omega) w)
  have HS := Lib.hid (fun (x : ByteArray) (h : x ∈ wordsB s) => Nat.le_trans (words_size h) hs)
  have CM := Lib.hid (fun w => moment_c (wd (wordsB s) 2) (Nat.le_trans (words_size (wd_mem 2 (by omega))) hs) w)
  rw [hmo] at CM
  clear hmo
  have CB := Lib.hid (fun w => bad_fmt w)
  have CQ : Hid (∀ (g cap : Nat) (w : World), Calls Tryd.prog 31 #[.slice (some ⟨g, 0, none⟩) 3 cap, .int .i64 3] w fun e w' => e = .returned (.tuple #[.slice (some ⟨g, 0, none⟩) 3 cap, .bool false]) ∧ w = w') := Lib.hid (fun g cap w => quiet_ne g 3 cap 3 w (by omega) (by omega))
  have HKO := Lib.hid hko
  clear hko
  have HN := Lib.hid hn
  clear hn
  refine Calls.mono (R := fun e w' => e = .returned (.tuple #[.agg #[.int .i64 8, .slice none 0 0, .int .u32 0, .int .i64 0, .string ⟨#[]⟩, .bool false, .string fmtB], .int .i64 (-1)]) ∧ Below w.heap.size w w') ?_ ?_
  · go_enter Tryd.func23, Tryd.ntmps23
    go_wp2_with (first
      | (go_at_call 28; ((with_reducible refine (CW.out _).mono ?_); rintro e w1 ⟨g, cap, rfl, hcap, hg, hlt, hx, hR, hb1⟩; obtain ⟨hc9, hf9⟩ := bcell hb1; have hz9 := hb1.size; (simp at hz9 hg); have hz8 : w.heap.size < w1.heap.size := (by omega); clear hz9; have x0 := wd_cell hx.out 0 (by have := HN.out; omega); have x2 := wd_cell hx.out 2 (by have := HN.out; omega); clear hx))
      | (go_at_call 33; refine (keys_n (w := w1) (m := 2) HN.out hR.out (by omega) (by omega) (by omega) (by omega) HS.out _ (by repeat (first | (with_reducible first | exact Below.refl _ _ | apply below_alloc | apply pw_below_drewN | apply below_drew1) | refine below_set ?_ (Nat.le_refl _)))).mono ?_; rintro e w' ⟨rfl, ⟨nd, rfl⟩⟩; rw [HKO.out])
      | (go_at_call 32; (with_reducible refine (CM.out _).mono ?_); rintro e w' ⟨rfl, ⟨nd, rfl⟩⟩)
      | (go_at_call 31; (with_reducible refine (CQ.out _ _ _).mono ?_); rintro e w' ⟨rfl, rfl⟩)
      | (go_at_call 29; (with_reducible refine (CB.out _).mono ?_); rintro e w2 ⟨rfl, hb2⟩; obtain ⟨hc8, hf8⟩ := bcell hb2))
    all_goals
      clear hc8 hf8
      clear hc9 hf9
      have hblk := Lib.hid (blk_below (blk_new w (.cells #[.int .i64 0, .slice none 0 0, .int .u32 0, .int .i64 0, .string ⟨#[]⟩, .bool false, .string ⟨#[]⟩] 28)) hb1)
      have hbel := Lib.hid (below_step (below_alloc (Below.refl w.heap.size w) (.cells #[.int .i64 0, .slice none 0 0, .int .u32 0, .int .i64 0, .string ⟨#[]⟩, .bool false, .string ⟨#[]⟩] 28)) hb1)
      refine bodyPost_ret (results_ct (p := 2) (u := 3) (ty := 28) (fn := Tryd.f23) ?h0 _ _ w.heap.size 28 #[.int .i64 8, .slice none 0 0, .int .u32 0, .int .i64 0, .string ⟨#[]⟩, .bool false, .string fmtB] (0, 0) _ ?h1 ?h2 Tryd.underlying28 rfl (by kernel_rfl)) ?h3 ?h4
      case h0 => rfl
      case h1 => rfl
      case h3 => rfl
      case h2 =>
        refine put7 (c0 := .int .i64 0) (c1 := .slice none 0 0) (c2 := .int .u32 0) (c3 := .int .i64 0) (c4 := .string ⟨#[]⟩) (c5 := .bool false) (c6 := .string ⟨#[]⟩) ?_
        refine blk_below ?_ hb2
        repeat (first | (with_reducible first | exact hblk.out | apply blk_drewN | apply blk_drew | apply blk_alloc) | refine blk_far ?_ (by show w.heap.size ≠ w1.heap.size; omega) _)
      case h4 =>
        refine ⟨rfl, ?_⟩
        repeat (first | (with_reducible first | exact hbel.out | apply below_alloc | apply pw_below_drewN | apply below_drew1) | refine below_set ?_ (by omega) | refine below_step ?_ hb2)
  · rintro e w' ⟨rfl, hb⟩
    exact ⟨_, rfl, Kd.Q_nil _ _ _ _ _, hb⟩
set_option maxRecDepth 100000 in
set_option maxHeartbeats 1600000 in
theorem par_touch_no (s : ByteArray) (hs : s.size ≤ 1000000) (hn : (wordsB s).length = 3) (w : World) (e0 : ((wd (wordsB s) 0).toList == [103, 101, 116]) = false) (e1 : ((wd (wordsB s) 0).toList == [115, 101, 116]) = false) (e2 : ((wd (wordsB s) 0).toList == [100, 101, 108, 101, 116, 101]) = false) (e3 : ((wd (wordsB s) 0).toList == [116, 111, 117, 99, 104]) = true) (hmo : momB (wd (wordsB s) 2) = true) (hko : (((wordsB s).take 2).drop 1).all keyP = true) :
    Calls Tryd.prog 23 #[.string s] w (TellsC (4, ((wordsB s).take 2).drop 1, 0, (momV (wd (wordsB s) 2)), ⟨#[]⟩, false, ⟨#[]⟩, -1) w.heap.size w) := by
  have CW := Lib.hid (fun w => words_c s hs 3 hn (by omega) w)
  have HS := Lib.hid (fun (x : ByteArray) (h : x ∈ wordsB s) => Nat.le_trans (words_size h) hs)
  have CM := Lib.hid (fun w => moment_c (wd (wordsB s) 2) (Nat.le_trans (words_size (wd_mem 2 (by omega))) hs) w)
  rw [hmo] at CM
  clear hmo
  have CQ : Hid (∀ (g cap : Nat) (w : World), Calls Tryd.prog 31 #[.slice (some ⟨g, 0, none⟩) 3 cap, .int .i64 3] w fun e w' => e = .returned (.tuple #[.slice (some ⟨g, 0, none⟩) 3 cap, .bool false]) ∧ w = w') := Lib.hid (fun g cap w => quiet_ne g 3 cap 3 w (by omega) (by omega))
  have HKO := Lib.hid hko
  clear hko
  have HN := Lib.hid hn
  clear hn
  refine Calls.mono (R := fun e w' => ∃ v, e = .returned (.tuple #[.agg #[.int .i64 4, v, .int .u32 0, .int .i64 (momV (wd (wordsB s) 2)), .string ⟨#[]⟩, .bool false, .string ⟨#[]⟩], .int .i64 (-1)]) ∧ Kd.Q Kd.string 9 w' w.heap.size (fun _ => True) v (((wordsB s).take 2).drop 1) ∧ Below w.heap.size w w') ?_ ?_
  · go_enter Tryd.func23, Tryd.ntmps23
    go_wp2_with (first
      | (go_at_call 28; ((with_reducible refine (CW.out _).mono ?_); rintro e w1 ⟨g, cap, rfl, hcap, hg, hlt, hx, hR, hb1⟩; obtain ⟨hc9, hf9⟩ := bcell hb1; have hz9 := hb1.size; (simp at hz9 hg); have hz8 : w.heap.size < w1.heap.size := (by omega); clear hz9; have x0 := wd_cell hx.out 0 (by have := HN.out; omega); have x2 := wd_cell hx.out 2 (by have := HN.out; omega); clear hx))
      | (go_at_call 33; refine (keys_n (w := w1) (m := 2) HN.out hR.out (by omega) (by omega) (by omega) (by omega) HS.out _ (by repeat (first | (with_reducible first | exact Below.refl _ _ | apply below_alloc | apply pw_below_drewN | apply below_drew1) | refine below_set ?_ (Nat.le_refl _)))).mono ?_; rintro e w' ⟨rfl, ⟨nd, rfl⟩⟩; rw [HKO.out])
      | (go_at_call 32; (with_reducible refine (CM.out _).mono ?_); rintro e w' ⟨rfl, ⟨nd, rfl⟩⟩)
      | (go_at_call 31; (with_reducible refine (CQ.out _ _ _).mono ?_); rintro e w' ⟨rfl, rfl⟩))
    all_goals
      clear hc9 hf9
      have hblk := Lib.hid (blk_below (blk_new w (.cells #[.int .i64 0, .slice none 0 0, .int .u32 0, .int .i64 0, .string ⟨#[]⟩, .bool false, .string ⟨#[]⟩] 28)) hb1)
      have hbel := Lib.hid (below_step (below_alloc (Below.refl w.heap.size w) (.cells #[.int .i64 0, .slice none 0 0, .int .u32 0, .int .i64 0, .string ⟨#[]⟩, .bool false, .string ⟨#[]⟩] 28)) hb1)
      refine bodyPost_ret (results_ct (p := 2) (u := 3) (ty := 28) (fn := Tryd.f23) ?h0 _ _ w.heap.size 28 #[.int .i64 4, (.slice (some ⟨g, 1, none⟩) (1) (cap - 1)), .int .u32 0, .int .i64 (momV (wd (wordsB s) 2)), .string ⟨#[]⟩, .bool false, .string ⟨#[]⟩] (0, 0) _ ?h1 ?h2 Tryd.underlying28 rfl (by kernel_rfl)) ?h3 ?h4
      case h0 => rfl
      case h1 => rfl
      case h3 => rfl
      case h2 =>
        refine put7 (c0 := .int .i64 0) (c1 := .slice none 0 0) (c2 := .int .u32 0) (c3 := .int .i64 0) (c4 := .string ⟨#[]⟩) (c5 := .bool false) (c6 := .string ⟨#[]⟩) ?_
        repeat (first | (with_reducible first | exact hblk.out | apply blk_drewN | apply blk_drew | apply blk_alloc) | refine blk_far ?_ (by show w.heap.size ≠ w1.heap.size; omega) _)
      case h4 =>
        refine ⟨_, rfl, Q_same (Q_n (m := 2) HN.out hR.out (by omega) (by omega) (by omega)) (by repeat (first | (with_reducible first | exact same_refl _ _ | apply same_drewN | apply same_drew | apply same_alloc) | refine same_set ?_ _ (by first | (simp; done) | (simp; omega)))) (by simp), ?_⟩
        repeat (first | (with_reducible first | exact hbel.out | apply below_alloc | apply pw_below_drewN | apply below_drew1) | refine below_set ?_ (by omega))
  · rintro e w' ⟨v, rfl, hQ, hb⟩
    exact ⟨_, rfl, hQ, hb⟩
set_option maxRecDepth 100000 in
set_option maxHeartbeats 1600000 in
theorem par_touch_yes_m (s : ByteArray) (hs : s.size ≤ 1000000) (hn : (wordsB s).length = 4) (w : World) (e0 : ((wd (wordsB s) 0).toList == [103, 101, 116]) = false) (e1 : ((wd (wordsB s) 0).toList == [115, 101, 116]) = false) (e2 : ((wd (wordsB s) 0).toList == [100, 101, 108, 101, 116, 101]) = false) (e3 : ((wd (wordsB s) 0).toList == [116, 111, 117, 99, 104]) = true) (hnr : ((wd (wordsB s) 3).toList == [110, 111, 114, 101, 112, 108, 121]) = true) (hmo : momB (wd (wordsB s) 2) = false) :
    Calls Tryd.prog 23 #[.string s] w (TellsC (badA fmtB (-1)) w.heap.size w) := by
  have CW := Lib.hid (fun w => words_c s hs 4 hn (by omega) w)
  have HS := Lib.hid (fun (x : ByteArray) (h : x ∈ wordsB s) => Nat.le_trans (words_size h) hs)
  have CM := Lib.hid (fun w => moment_c (wd (wordsB s) 2) (Nat.le_trans (words_size (wd_mem 2 (by omega))) hs) w)
  rw [hmo] at CM
  clear hmo
  have CB := Lib.hid (fun w => bad_fmt w)
  have CQ : Hid (∀ (g cap : Nat) (w : World) (_ : w.cell? ⟨g, 3, none⟩ = some (.string (wd (wordsB s) 3))) (_ : 3 ≤ cap), Calls Tryd.prog 31 #[.slice (some ⟨g, 0, none⟩) 4 cap, .int .i64 3] w fun e w' => e = .returned (.tuple #[.slice (some ⟨g, 0, none⟩) 3 cap, .bool true]) ∧ w = w') := Lib.hid (fun g cap w hc hm => quiet_yes g cap 3 (wd (wordsB s) 3) w hc hnr (by omega) hm)
  clear hnr
  have HN := Lib.hid hn
  clear hn
  refine Calls.mono (R := fun e w' => e = .returned (.tuple #[.agg #[.int .i64 8, .slice none 0 0, .int .u32 0, .int .i64 0, .string ⟨#[]⟩, .bool false, .string fmtB], .int .i64 (-1)]) ∧ Below w.heap.size w w') ?_ ?_
  · go_enter Tryd.func23, Tryd.ntmps23
    go_wp2_with (first
      | (go_at_call 28; ((with_reducible refine (CW.out _).mono ?_); rintro e w1 ⟨g, cap, rfl, hcap, hg, hlt, hx, hR, hb1⟩; obtain ⟨hc9, hf9⟩ := bcell hb1; have hz9 := hb1.size; (simp at hz9 hg); have hz8 : w.heap.size < w1.heap.size := (by omega); clear hz9; have x0 := wd_cell hx.out 0 (by have := HN.out; omega); have x2 := wd_cell hx.out 2 (by have := HN.out; omega); have x3 := wd_cell hx.out 3 (by have := HN.out; omega); clear hx))
      | (go_at_call 32; (with_reducible refine (CM.out _).mono ?_); rintro e w' ⟨rfl, ⟨nd, rfl⟩⟩)
      | (go_at_call 31; (with_reducible refine (CQ.out _ _ _ (by go_simp) (by omega)).mono ?_); rintro e w' ⟨rfl, rfl⟩)
      | (go_at_call 29; (with_reducible refine (CB.out _).mono ?_); rintro e w2 ⟨rfl, hb2⟩; obtain ⟨hc8, hf8⟩ := bcell hb2))
    all_goals
      clear hc8 hf8
      clear hc9 hf9
      have hblk := Lib.hid (blk_below (blk_new w (.cells #[.int .i64 0, .slice none 0 0, .int .u32 0, .int .i64 0, .string ⟨#[]⟩, .bool false, .string ⟨#[]⟩] 28)) hb1)
      have hbel := Lib.hid (below_step (below_alloc (Below.refl w.heap.size w) (.cells #[.int .i64 0, .slice none 0 0, .int .u32 0, .int .i64 0, .string ⟨#[]⟩, .bool false, .string ⟨#[]⟩] 28)) hb1)
      refine bodyPost_ret (results_ct (p := 2) (u := 3) (ty := 28) (fn := Tryd.f23) ?h0 _ _ w.heap.size 28 #[.int .i64 8, .slice none 0 0, .int .u32 0, .int .i64 0, .string ⟨#[]⟩, .bool false, .string fmtB] (0, 0) _ ?h1 ?h2 Tryd.underlying28 rfl (by kernel_rfl)) ?h3 ?h4
      case h0 => rfl
      case h1 => rfl
      case h3 => rfl
      case h2 =>
        refine put7 (c0 := .int .i64 0) (c1 := .slice none 0 0) (c2 := .int .u32 0) (c3 := .int .i64 0) (c4 := .string ⟨#[]⟩) (c5 := .bool false) (c6 := .string ⟨#[]⟩) ?_
        refine blk_below ?_ hb2
        repeat (first | (with_reducible first | exact hblk.out | apply blk_drewN | apply blk_drew | apply blk_alloc) | refine blk_far ?_ (by show w.heap.size ≠ w1.heap.size; omega) _)
      case h4 =>
        refine ⟨rfl, ?_⟩
        repeat (first | (with_reducible first | exact hbel.out | apply below_alloc | apply pw_below_drewN | apply below_drew1) | refine below_set ?_ (by omega) | refine below_step ?_ hb2)
  · rintro e w' ⟨rfl, hb⟩
    exact ⟨_, rfl, Kd.Q_nil _ _ _ _ _, hb⟩
set_option maxRecDepth 100000 in
set_option maxHeartbeats 1600000 in
theorem par_touch_yes_k (s : ByteArray) (hs : s.size ≤ 1000000) (hn : (wordsB s).length = 4) (w : World) (e0 : ((wd (wordsB s) 0).toList == [103, 101, 116]) = false) (e1 : ((wd (wordsB s) 0).toList == [115, 101, 116]) = false) (e2 : ((wd (wordsB s) 0).toList == [100, 101, 108, 101, 116, 101]) = false) (e3 : ((wd (wordsB s) 0).toList == [116, 111, 117, 99, 104]) = true) (hnr : ((wd (wordsB s) 3).toList == [110, 111, 114, 101, 112, 108, 121]) = true) (hmo : momB (wd (wordsB s) 2) = true) (hko : (((wordsB s).take 2).drop 1).all keyP = false) :
    Calls Tryd.prog 23 #[.string s] w (TellsC (badA fmtB (-1)) w.heap.size w) := by
  have CW := Lib.hid (fun w => words_c s hs 4 hn (by omega) w)
  have HS := Lib.hid (fun (x : ByteArray) (h : x ∈ wordsB s) => Nat.le_trans (words_size h) hs)
  have CM := Lib.hid (fun w => moment_c (wd (wordsB s) 2) (Nat.le_trans (words_size (wd_mem 2 (by omega))) hs) w)
  rw [hmo] at CM
  clear hmo
  have CB := Lib.hid (fun w => bad_fmt w)
  have CQ : Hid (∀ (g cap : Nat) (w : World) (_ : w.cell? ⟨g, 3, none⟩ = some (.string (wd (wordsB s) 3))) (_ : 3 ≤ cap), Calls Tryd.prog 31 #[.slice (some ⟨g, 0, none⟩) 4 cap, .int .i64 3] w fun e w' => e = .returned (.tuple #[.slice (some ⟨g, 0, none⟩) 3 cap, .bool true]) ∧ w = w') := Lib.hid (fun g cap w hc hm => quiet_yes g cap 3 (wd (wordsB s) 3) w hc hnr (by omega) hm)
  clear hnr
  have HKO := Lib.hid hko
  clear hko
  have HN := Lib.hid hn
  clear hn
  refine Calls.mono (R := fun e w' => e = .returned (.tuple #[.agg #[.int .i64 8, .slice none 0 0, .int .u32 0, .int .i64 0, .string ⟨#[]⟩, .bool false, .string fmtB], .int .i64 (-1)]) ∧ Below w.heap.size w w') ?_ ?_
  · go_enter Tryd.func23, Tryd.ntmps23
    go_wp2_with (first
      | (go_at_call 28; ((with_reducible refine (CW.out _).mono ?_); rintro e w1 ⟨g, cap, rfl, hcap, hg, hlt, hx, hR, hb1⟩; obtain ⟨hc9, hf9⟩ := bcell hb1; have hz9 := hb1.size; (simp at hz9 hg); have hz8 : w.heap.size < w1.heap.size := (by omega); clear hz9; have x0 := wd_cell hx.out 0 (by have := HN.out; omega); have x2 := wd_cell hx.out 2 (by have := HN.out; omega); have x3 := wd_cell hx.out 3 (by have := HN.out; omega); clear hx))
      | (go_at_call 33; refine (keys_n (w := w1) (m := 2) HN.out hR.out (by omega) (by omega) (by omega) (by omega) HS.out _ (by repeat (first | (with_reducible first | exact Below.refl _ _ | apply below_alloc | apply pw_below_drewN | apply below_drew1) | refine below_set ?_ (Nat.le_refl _)))).mono ?_; rintro e w' ⟨rfl, ⟨nd, rfl⟩⟩; rw [HKO.out])
      | (go_at_call 32; (with_reducible refine (CM.out _).mono ?_); rintro e w' ⟨rfl, ⟨nd, rfl⟩⟩)
      | (go_at_call 31; (with_reducible refine (CQ.out _ _ _ (by go_simp) (by omega)).mono ?_); rintro e w' ⟨rfl, rfl⟩)
      | (go_at_call 29; (with_reducible refine (CB.out _).mono ?_); rintro e w2 ⟨rfl, hb2⟩; obtain ⟨hc8, hf8⟩ := bcell hb2))
    all_goals
      clear hc8 hf8
      clear hc9 hf9
      have hblk := Lib.hid (blk_below (blk_new w (.cells #[.int .i64 0, .slice none 0 0, .int .u32 0, .int .i64 0, .string ⟨#[]⟩, .bool false, .string ⟨#[]⟩] 28)) hb1)
      have hbel := Lib.hid (below_step (below_alloc (Below.refl w.heap.size w) (.cells #[.int .i64 0, .slice none 0 0, .int .u32 0, .int .i64 0, .string ⟨#[]⟩, .bool false, .string ⟨#[]⟩] 28)) hb1)
      refine bodyPost_ret (results_ct (p := 2) (u := 3) (ty := 28) (fn := Tryd.f23) ?h0 _ _ w.heap.size 28 #[.int .i64 8, .slice none 0 0, .int .u32 0, .int .i64 0, .string ⟨#[]⟩, .bool false, .string fmtB] (0, 0) _ ?h1 ?h2 Tryd.underlying28 rfl (by kernel_rfl)) ?h3 ?h4
      case h0 => rfl
      case h1 => rfl
      case h3 => rfl
      case h2 =>
        refine put7 (c0 := .int .i64 0) (c1 := .slice none 0 0) (c2 := .int .u32 0) (c3 := .int .i64 0) (c4 := .string ⟨#[]⟩) (c5 := .bool false) (c6 := .string ⟨#[]⟩) ?_
        refine blk_below ?_ hb2
        repeat (first | (with_reducible first | exact hblk.out | apply blk_drewN | apply blk_drew | apply blk_alloc) | refine blk_far ?_ (by show w.heap.size ≠ w1.heap.size; omega) _)
      case h4 =>
        refine ⟨rfl, ?_⟩
        repeat (first | (with_reducible first | exact hbel.out | apply below_alloc | apply pw_below_drewN | apply below_drew1) | refine below_set ?_ (by omega) | refine below_step ?_ hb2)
  · rintro e w' ⟨rfl, hb⟩
    exact ⟨_, rfl, Kd.Q_nil _ _ _ _ _, hb⟩
set_option maxRecDepth 100000 in
set_option maxHeartbeats 1600000 in
theorem par_touch_yes (s : ByteArray) (hs : s.size ≤ 1000000) (hn : (wordsB s).length = 4) (w : World) (e0 : ((wd (wordsB s) 0).toList == [103, 101, 116]) = false) (e1 : ((wd (wordsB s) 0).toList == [115, 101, 116]) = false) (e2 : ((wd (wordsB s) 0).toList == [100, 101, 108, 101, 116, 101]) = false) (e3 : ((wd (wordsB s) 0).toList == [116, 111, 117, 99, 104]) = true) (hnr : ((wd (wordsB s) 3).toList == [110, 111, 114, 101, 112, 108, 121]) = true) (hmo : momB (wd (wordsB s) 2) = true) (hko : (((wordsB s).take 2).drop 1).all keyP = true) :
    Calls Tryd.prog 23 #[.string s] w (TellsC (4, ((wordsB s).take 2).drop 1, 0, (momV (wd (wordsB s) 2)), ⟨#[]⟩, true, ⟨#[]⟩, -1) w.heap.size w) := by
  have CW := Lib.hid (fun w => words_c s hs 4 hn (by omega) w)
  have HS := Lib.hid (fun (x : ByteArray) (h : x ∈ wordsB s) => Nat.le_trans (words_size h) hs)
  have CM := Lib.hid (fun w => moment_c (wd (wordsB s) 2) (Nat.le_trans (words_size (wd_mem 2 (by omega))) hs) w)
  rw [hmo] at CM
  clear hmo
  have CQ : Hid (∀ (g cap : Nat) (w : World) (_ : w.cell? ⟨g, 3, none⟩ = some (.string (wd (wordsB s) 3))) (_ : 3 ≤ cap), Calls Tryd.prog 31 #[.slice (some ⟨g, 0, none⟩) 4 cap, .int .i64 3] w fun e w' => e = .returned (.tuple #[.slice (some ⟨g, 0, none⟩) 3 cap, .bool true]) ∧ w = w') := Lib.hid (fun g cap w hc hm => quiet_yes g cap 3 (wd (wordsB s) 3) w hc hnr (by omega) hm)
  clear hnr
  have HKO := Lib.hid hko
  clear hko
  have HN := Lib.hid hn
  clear hn
  refine Calls.mono (R := fun e w' => ∃ v, e = .returned (.tuple #[.agg #[.int .i64 4, v, .int .u32 0, .int .i64 (momV (wd (wordsB s) 2)), .string ⟨#[]⟩, .bool true, .string ⟨#[]⟩], .int .i64 (-1)]) ∧ Kd.Q Kd.string 9 w' w.heap.size (fun _ => True) v (((wordsB s).take 2).drop 1) ∧ Below w.heap.size w w') ?_ ?_
  · go_enter Tryd.func23, Tryd.ntmps23
    go_wp2_with (first
      | (go_at_call 28; ((with_reducible refine (CW.out _).mono ?_); rintro e w1 ⟨g, cap, rfl, hcap, hg, hlt, hx, hR, hb1⟩; obtain ⟨hc9, hf9⟩ := bcell hb1; have hz9 := hb1.size; (simp at hz9 hg); have hz8 : w.heap.size < w1.heap.size := (by omega); clear hz9; have x0 := wd_cell hx.out 0 (by have := HN.out; omega); have x2 := wd_cell hx.out 2 (by have := HN.out; omega); have x3 := wd_cell hx.out 3 (by have := HN.out; omega); clear hx))
      | (go_at_call 33; refine (keys_n (w := w1) (m := 2) HN.out hR.out (by omega) (by omega) (by omega) (by omega) HS.out _ (by repeat (first | (with_reducible first | exact Below.refl _ _ | apply below_alloc | apply pw_below_drewN | apply below_drew1) | refine below_set ?_ (Nat.le_refl _)))).mono ?_; rintro e w' ⟨rfl, ⟨nd, rfl⟩⟩; rw [HKO.out])
      | (go_at_call 32; (with_reducible refine (CM.out _).mono ?_); rintro e w' ⟨rfl, ⟨nd, rfl⟩⟩)
      | (go_at_call 31; (with_reducible refine (CQ.out _ _ _ (by go_simp) (by omega)).mono ?_); rintro e w' ⟨rfl, rfl⟩))
    all_goals
      clear hc9 hf9
      have hblk := Lib.hid (blk_below (blk_new w (.cells #[.int .i64 0, .slice none 0 0, .int .u32 0, .int .i64 0, .string ⟨#[]⟩, .bool false, .string ⟨#[]⟩] 28)) hb1)
      have hbel := Lib.hid (below_step (below_alloc (Below.refl w.heap.size w) (.cells #[.int .i64 0, .slice none 0 0, .int .u32 0, .int .i64 0, .string ⟨#[]⟩, .bool false, .string ⟨#[]⟩] 28)) hb1)
      refine bodyPost_ret (results_ct (p := 2) (u := 3) (ty := 28) (fn := Tryd.f23) ?h0 _ _ w.heap.size 28 #[.int .i64 4, (.slice (some ⟨g, 1, none⟩) (1) (cap - 1)), .int .u32 0, .int .i64 (momV (wd (wordsB s) 2)), .string ⟨#[]⟩, .bool true, .string ⟨#[]⟩] (0, 0) _ ?h1 ?h2 Tryd.underlying28 rfl (by kernel_rfl)) ?h3 ?h4
      case h0 => rfl
      case h1 => rfl
      case h3 => rfl
      case h2 =>
        refine put7 (c0 := .int .i64 0) (c1 := .slice none 0 0) (c2 := .int .u32 0) (c3 := .int .i64 0) (c4 := .string ⟨#[]⟩) (c5 := .bool false) (c6 := .string ⟨#[]⟩) ?_
        repeat (first | (with_reducible first | exact hblk.out | apply blk_drewN | apply blk_drew | apply blk_alloc) | refine blk_far ?_ (by show w.heap.size ≠ w1.heap.size; omega) _)
      case h4 =>
        refine ⟨_, rfl, Q_same (Q_n (m := 2) HN.out hR.out (by omega) (by omega) (by omega)) (by repeat (first | (with_reducible first | exact same_refl _ _ | apply same_drewN | apply same_drew | apply same_alloc) | refine same_set ?_ _ (by first | (simp; done) | (simp; omega)))) (by simp), ?_⟩
        repeat (first | (with_reducible first | exact hbel.out | apply below_alloc | apply pw_below_drewN | apply below_drew1) | refine below_set ?_ (by omega))
  · rintro e w' ⟨v, rfl, hQ, hb⟩
    exact ⟨_, rfl, hQ, hb⟩
set_option maxRecDepth 100000 in
set_option maxHeartbeats 1600000 in
theorem par_touch_x (s : ByteArray) (hs : s.size ≤ 1000000) (hn : (wordsB s).length = 4) (w : World) (e0 : ((wd (wordsB s) 0).toList == [103, 101, 116]) = false) (e1 : ((wd (wordsB s) 0).toList == [115, 101, 116]) = false) (e2 : ((wd (wordsB s) 0).toList == [100, 101, 108, 101, 116, 101]) = false) (e3 : ((wd (wordsB s) 0).toList == [116, 111, 117, 99, 104]) = true) (hnr : ((wd (wordsB s) 3).toList == [110, 111, 114, 101, 112, 108, 121]) = false) :
    Calls Tryd.prog 23 #[.string s] w (TellsC (badA fmtB (-1)) w.heap.size w) := by
  have CW := Lib.hid (fun w => words_c s hs 4 hn (by omega) w)
  have HS := Lib.hid (fun (x : ByteArray) (h : x ∈ wordsB s) => Nat.le_trans (words_size h) hs)
  have CB := Lib.hid (fun w => bad_fmt w)
  have CQ : Hid (∀ (g cap : Nat) (w : World) (_ : w.cell? ⟨g, 3, none⟩ = some (.string (wd (wordsB s) 3))), Calls Tryd.prog 31 #[.slice (some ⟨g, 0, none⟩) 4 cap, .int .i64 3] w fun e w' => e = .returned (.tuple #[.slice (some ⟨g, 0, none⟩) 4 cap, .bool false]) ∧ w = w') := Lib.hid (fun g cap w hc => quiet_no g cap 3 (wd (wordsB s) 3) w hc hnr (by omega))
  clear hnr
  have HN := Lib.hid hn
  clear hn
  refine Calls.mono (R := fun e w' => e = .returned (.tuple #[.agg #[.int .i64 8, .slice none 0 0, .int .u32 0, .int .i64 0, .string ⟨#[]⟩, .bool false, .string fmtB], .int .i64 (-1)]) ∧ Below w.heap.size w w') ?_ ?_
  · go_enter Tryd.func23, Tryd.ntmps23
    go_wp2_with (first
      | (go_at_call 28; ((with_reducible refine (CW.out _).mono ?_); rintro e w1 ⟨g, cap, rfl, hcap, hg, hlt, hx, hR, hb1⟩; obtain ⟨hc9, hf9⟩ := bcell hb1; have hz9 := hb1.size; (simp at hz9 hg); have hz8 : w.heap.size < w1.heap.size := (by omega); clear hz9; have x0 := wd_cell hx.out 0 (by have := HN.out; omega); have x3 := wd_cell hx.out 3 (by have := HN.out; omega); clear hx))
      | (go_at_call 31; (with_reducible refine (CQ.out _ _ _ (by go_simp)).mono ?_); rintro e w' ⟨rfl, rfl⟩)
      | (go_at_call 29; (with_reducible refine (CB.out _).mono ?_); rintro e w2 ⟨rfl, hb2⟩; obtain ⟨hc8, hf8⟩ := bcell hb2))
    all_goals
      clear hc8 hf8
      clear hc9 hf9
      have hblk := Lib.hid (blk_below (blk_new w (.cells #[.int .i64 0, .slice none 0 0, .int .u32 0, .int .i64 0, .string ⟨#[]⟩, .bool false, .string ⟨#[]⟩] 28)) hb1)
      have hbel := Lib.hid (below_step (below_alloc (Below.refl w.heap.size w) (.cells #[.int .i64 0, .slice none 0 0, .int .u32 0, .int .i64 0, .string ⟨#[]⟩, .bool false, .string ⟨#[]⟩] 28)) hb1)
      refine bodyPost_ret (results_ct (p := 2) (u := 3) (ty := 28) (fn := Tryd.f23) ?h0 _ _ w.heap.size 28 #[.int .i64 8, .slice none 0 0, .int .u32 0, .int .i64 0, .string ⟨#[]⟩, .bool false, .string fmtB] (0, 0) _ ?h1 ?h2 Tryd.underlying28 rfl (by kernel_rfl)) ?h3 ?h4
      case h0 => rfl
      case h1 => rfl
      case h3 => rfl
      case h2 =>
        refine put7 (c0 := .int .i64 0) (c1 := .slice none 0 0) (c2 := .int .u32 0) (c3 := .int .i64 0) (c4 := .string ⟨#[]⟩) (c5 := .bool false) (c6 := .string ⟨#[]⟩) ?_
        refine blk_below ?_ hb2
        repeat (first | (with_reducible first | exact hblk.out | apply blk_drewN | apply blk_drew | apply blk_alloc) | refine blk_far ?_ (by show w.heap.size ≠ w1.heap.size; omega) _)
      case h4 =>
        refine ⟨rfl, ?_⟩
        repeat (first | (with_reducible first | exact hbel.out | apply below_alloc | apply pw_below_drewN | apply below_drew1) | refine below_set ?_ (by omega) | refine below_step ?_ hb2)
  · rintro e w' ⟨rfl, hb⟩
    exact ⟨_, rfl, Kd.Q_nil _ _ _ _ _, hb⟩
set_option maxRecDepth 100000 in
set_option maxHeartbeats 1600000 in
theorem par_touch_n (s : ByteArray) (hs : s.size ≤ 1000000) (n : Nat) (hn : (wordsB s).length = n) (hn0 : 0 < n) (hn1 : n ≤ 1000001) (h1 : n ≠ 3) (h2 : n ≠ 4) (w : World) (e0 : ((wd (wordsB s) 0).toList == [103, 101, 116]) = false) (e1 : ((wd (wordsB s) 0).toList == [115, 101, 116]) = false) (e2 : ((wd (wordsB s) 0).toList == [100, 101, 108, 101, 116, 101]) = false) (e3 : ((wd (wordsB s) 0).toList == [116, 111, 117, 99, 104]) = true) :
    Calls Tryd.prog 23 #[.string s] w (TellsC (badA fmtB (-1)) w.heap.size w) := by
  have CW := Lib.hid (fun w => words_c s hs n hn (by omega) w)
  have HS := Lib.hid (fun (x : ByteArray) (h : x ∈ wordsB s) => Nat.le_trans (words_size h) hs)
  have t0 : ((n : Int) == 0) = false := beq_eq_false_iff_ne.2 (by omega)
  have t1 : ((n : Int) == 3) = false := beq_eq_false_iff_ne.2 (by omega)
  have t2 : Hid (n ≠ 4) := Lib.hid h2
  have HN0 := Lib.hid hn0
  have CB := Lib.hid (fun w => bad_fmt w)
  have CQ : Hid (∀ (g cap : Nat) (w : World), Calls Tryd.prog 31 #[.slice (some ⟨g, 0, none⟩) n cap, .int .i64 3] w fun e w' => e = .returned (.tuple #[.slice (some ⟨g, 0, none⟩) n cap, .bool false]) ∧ w = w') := Lib.hid (fun g cap w => quiet_ne g n cap 3 w (by omega) (by omega))
  have HN := Lib.hid hn
  clear hn h1 h2
  refine Calls.mono (R := fun e w' => e = .returned (.tuple #[.agg #[.int .i64 8, .slice none 0 0, .int .u32 0, .int .i64 0, .string ⟨#[]⟩, .bool false, .string fmtB], .int .i64 (-1)]) ∧ Below w.heap.size w w') ?_ ?_
  · go_enter Tryd.func23, Tryd.ntmps23
    go_wp2_with (first
      | (go_at_call 28; ((with_reducible refine (CW.out _).mono ?_); rintro e w1 ⟨g, cap, rfl, hcap, hg, hlt, hx, hR, hb1⟩; obtain ⟨hc9, hf9⟩ := bcell hb1; have hz9 := hb1.size; (simp at hz9 hg); have hz8 : w.heap.size < w1.heap.size := (by omega); clear hz9; have x0 := wd_cell hx.out 0 (by have := HN.out; have := HN0.out; omega); clear hx))
      | (go_at_call 31; (with_reducible refine (CQ.out _ _ _).mono ?_); rintro e w' ⟨rfl, rfl⟩)
      | (go_at_call 29; (with_reducible refine (CB.out _).mono ?_); rintro e w2 ⟨rfl, hb2⟩; obtain ⟨hc8, hf8⟩ := bcell hb2))
    all_goals
      clear hc8 hf8
      clear hc9 hf9
      have hblk := Lib.hid (blk_below (blk_new w (.cells #[.int .i64 0, .slice none 0 0, .int .u32 0, .int .i64 0, .string ⟨#[]⟩, .bool false, .string ⟨#[]⟩] 28)) hb1)
      have hbel := Lib.hid (below_step (below_alloc (Below.refl w.heap.size w) (.cells #[.int .i64 0, .slice none 0 0, .int .u32 0, .int .i64 0, .string ⟨#[]⟩, .bool false, .string ⟨#[]⟩] 28)) hb1)
      refine bodyPost_ret (results_ct (p := 2) (u := 3) (ty := 28) (fn := Tryd.f23) ?h0 _ _ w.heap.size 28 #[.int .i64 8, .slice none 0 0, .int .u32 0, .int .i64 0, .string ⟨#[]⟩, .bool false, .string fmtB] (0, 0) _ ?h1 ?h2 Tryd.underlying28 rfl (by kernel_rfl)) ?h3 ?h4
      case h0 => rfl
      case h1 => rfl
      case h3 => rfl
      case h2 =>
        refine put7 (c0 := .int .i64 0) (c1 := .slice none 0 0) (c2 := .int .u32 0) (c3 := .int .i64 0) (c4 := .string ⟨#[]⟩) (c5 := .bool false) (c6 := .string ⟨#[]⟩) ?_
        refine blk_below ?_ hb2
        repeat (first | (with_reducible first | exact hblk.out | apply blk_drewN | apply blk_drew | apply blk_alloc) | refine blk_far ?_ (by show w.heap.size ≠ w1.heap.size; omega) _)
      case h4 =>
        refine ⟨rfl, ?_⟩
        repeat (first | (with_reducible first | exact hbel.out | apply below_alloc | apply pw_below_drewN | apply below_drew1) | refine below_set ?_ (by omega) | refine below_step ?_ hb2)
  · rintro e w' ⟨rfl, hb⟩
    exact ⟨_, rfl, Kd.Q_nil _ _ _ _ _, hb⟩
end Go.Proofs.YthinmioognadpaaDoor.Cmd

/- cmd.Parse at any line (own text). -/
namespace Go.Proofs.YthinmioognadpaaDoor.Cmd
open Go.RowKit Go.Proofs.YthinmioognadpaaDoorW.PrintWords Go.Proofs.YthinmioognadpaaDoorW.PrintLast Go.Proofs.YthinmioognadpaaDoorW.PrintMore Go.Proofs.YthinmioognadpaaDoor.PCmd Go.Proofs.YthinmioognadpaaDoor.Split
set_option linter.unusedVariables false
set_option linter.unusedSimpArgs false
set_option maxRecDepth 100000 in
set_option maxHeartbeats 1600000 in
theorem par_nil (s : ByteArray) (hs : s.size ≤ 1000000) (hn : wordsB s = []) (w : World) :
    Calls Tryd.prog 23 #[.string s] w (TellsC (badA errB (-1)) w.heap.size w) := by
  have CW := Lib.hid (fun w => words_nil s hs hn w)
  have CB := Lib.hid (fun w => bad_err w)
  clear hn
  refine Calls.mono (R := fun e w' => e = .returned (.tuple #[.agg #[.int .i64 8, .slice none 0 0, .int .u32 0, .int .i64 0, .string ⟨#[]⟩, .bool false, .string errB], .int .i64 (-1)]) ∧ Below w.heap.size w w') ?_ ?_
  · go_enter Tryd.func23, Tryd.ntmps23
    go_wp2_with (first
      | (go_at_call 28; ((with_reducible refine (CW.out _).mono ?_); rintro e w1 ⟨A, cap, rfl, hb1⟩; obtain ⟨hc9, hf9⟩ := bcell hb1; have hz9 := hb1.size; (simp at hz9); have hz8 : w.heap.size < w1.heap.size := (by omega); clear hz9))
      | (go_at_call 29; (with_reducible refine (CB.out _).mono ?_); rintro e w2 ⟨rfl, hb2⟩; obtain ⟨hc8, hf8⟩ := bcell hb2))
    clear hc8 hf8
    clear hc9 hf9
    have hblk := Lib.hid (blk_below (blk_new w (.cells #[.int .i64 0, .slice none 0 0, .int .u32 0, .int .i64 0, .string ⟨#[]⟩, .bool false, .string ⟨#[]⟩] 28)) hb1)
    have hbel := Lib.hid (below_step (below_alloc (Below.refl w.heap.size w) (.cells #[.int .i64 0, .slice none 0 0, .int .u32 0, .int .i64 0, .string ⟨#[]⟩, .bool false, .string ⟨#[]⟩] 28)) hb1)
    refine bodyPost_ret (results_ct (p := 2) (u := 3) (ty := 28) (fn := Tryd.f23) ?h0 _ _ w.heap.size 28 #[.int .i64 8, .slice none 0 0, .int .u32 0, .int .i64 0, .string ⟨#[]⟩, .bool false, .string errB] (0, 0) _ ?h1 ?h2 Tryd.underlying28 rfl (by kernel_rfl)) ?h3 ?h4
    case h0 => rfl
    case h1 => rfl
    case h3 => rfl
    case h2 =>
      refine put7 (c0 := .int .i64 0) (c1 := .slice none 0 0) (c2 := .int .u32 0) (c3 := .int .i64 0) (c4 := .string ⟨#[]⟩) (c5 := .bool false) (c6 := .string ⟨#[]⟩) ?_
      refine blk_below ?_ hb2
      repeat (first | (with_reducible first | exact hblk.out | apply blk_drewN | apply blk_drew | apply blk_alloc) | refine blk_far ?_ (by show w.heap.size ≠ w1.heap.size; omega) _)
    case h4 =>
      refine ⟨rfl, ?_⟩
      repeat (first | (with_reducible first | exact hbel.out | apply below_alloc | apply pw_below_drewN | apply below_drew1) | refine below_set ?_ (by omega) | refine below_step ?_ hb2)
  · rintro e w' ⟨rfl, hb⟩
    exact ⟨_, rfl, Kd.Q_nil _ _ _ _ _, hb⟩
def getB : ByteArray := ⟨#[103, 101, 116]⟩
def setB : ByteArray := ⟨#[115, 101, 116]⟩
def deleteB : ByteArray := ⟨#[100, 101, 108, 101, 116, 101]⟩
def touchB : ByteArray := ⟨#[116, 111, 117, 99, 104]⟩
def statsB : ByteArray := ⟨#[115, 116, 97, 116, 115]⟩
def versionB : ByteArray := ⟨#[118, 101, 114, 115, 105, 111, 110]⟩
def quitB : ByteArray := ⟨#[113, 117, 105, 116]⟩
/-- What a line's words say. -/
def parseP (l : List ByteArray) : Ans :=
  if l = [] then badA errB (-1)
  else if wd l 0 = getB then (if 2 ≤ l.length ∧ l.length ≤ 17 ∧ (l.drop 1).all keyP = true then (1, l.drop 1, 0, 0, ⟨#[]⟩, false, ⟨#[]⟩, -1) else badA fmtB (-1))
  else if wd l 0 = setB then setP l
  else if wd l 0 = deleteB then (if (l.length = 2 ∨ l.length = 3 ∧ wd l 2 = noreplyB) ∧ keyP (wd l 1) = true then (3, [wd l 1], 0, 0, ⟨#[]⟩, decide (l.length = 3), ⟨#[]⟩, -1) else badA fmtB (-1))
  else if wd l 0 = touchB then (if (l.length = 3 ∨ l.length = 4 ∧ wd l 3 = noreplyB) ∧ momB (wd l 2) = true ∧ keyP (wd l 1) = true then (4, [wd l 1], 0, momV (wd l 2), ⟨#[]⟩, decide (l.length = 4), ⟨#[]⟩, -1) else badA fmtB (-1))
  else if wd l 0 = statsB then (if l.length = 1 then (5, [], 0, 0, ⟨#[]⟩, false, ⟨#[]⟩, -1) else badA fmtB (-1))
  else if wd l 0 = versionB then (if l.length = 1 then (6, [], 0, 0, ⟨#[]⟩, false, ⟨#[]⟩, -1) else badA fmtB (-1))
  else if wd l 0 = quitB then (if l.length = 1 then (7, [], 0, 0, ⟨#[]⟩, false, ⟨#[]⟩, -1) else badA fmtB (-1))
  else badA errB (-1)
theorem lit_iff (s t : ByteArray) : (s.toList == t.data.toList) = decide (s = t) := by
  rw [toList_eq, Bool.eq_iff_iff, beq_iff_eq, decide_eq_true_eq]
  constructor
  · intro h; exact ext_list h
  · rintro rfl; rfl
theorem all_two (l : List ByteArray) (h : 2 ≤ l.length) : ((l.take 2).drop 1).all keyP = keyP (wd l 1) ∧ (l.take 2).drop 1 = [wd l 1] := by
  match l, h with
  | a :: b :: r, _ => exact ⟨Bool.and_true _, rfl⟩
theorem parse_any (s : ByteArray) (hs : s.size ≤ 1000000) (w : World) : Calls Tryd.prog 23 #[.string s] w (TellsC (parseP (wordsB s)) w.heap.size w) := by
  have hlen : (wordsB s).length ≤ 1000001 := by
    unfold wordsB
    have h1 := List.length_filter_le (fun x : ByteArray => !x.data.toList.isEmpty) (splitB s)
    have h2 := splitB_le s
    omega
  unfold parseP
  by_cases h0 : wordsB s = []
  · rw [if_pos h0]; exact par_nil s hs h0 w
  rw [if_neg h0]
  have hp : 0 < (wordsB s).length := List.length_pos_iff.2 h0
  obtain ⟨n, hn⟩ : ∃ n, (wordsB s).length = n := ⟨_, rfl⟩
  have e0 : ((wd (wordsB s) 0).toList == [103, 101, 116]) = decide (wd (wordsB s) 0 = getB) := lit_iff _ getB
  have e1 : ((wd (wordsB s) 0).toList == [115, 101, 116]) = decide (wd (wordsB s) 0 = setB) := lit_iff _ setB
  have e2 : ((wd (wordsB s) 0).toList == [100, 101, 108, 101, 116, 101]) = decide (wd (wordsB s) 0 = deleteB) := lit_iff _ deleteB
  have e3 : ((wd (wordsB s) 0).toList == [116, 111, 117, 99, 104]) = decide (wd (wordsB s) 0 = touchB) := lit_iff _ touchB
  have e4 : ((wd (wordsB s) 0).toList == [115, 116, 97, 116, 115]) = decide (wd (wordsB s) 0 = statsB) := lit_iff _ statsB
  have e5 : ((wd (wordsB s) 0).toList == [118, 101, 114, 115, 105, 111, 110]) = decide (wd (wordsB s) 0 = versionB) := lit_iff _ versionB
  have e6 : ((wd (wordsB s) 0).toList == [113, 117, 105, 116]) = decide (wd (wordsB s) 0 = quitB) := lit_iff _ quitB
  have n2 : ((wd (wordsB s) 2).toList == [110, 111, 114, 101, 112, 108, 121]) = decide (wd (wordsB s) 2 = noreplyB) := lit_iff _ noreplyB
  have n3 : ((wd (wordsB s) 3).toList == [110, 111, 114, 101, 112, 108, 121]) = decide (wd (wordsB s) 3 = noreplyB) := lit_iff _ noreplyB
  rw [hn] at hlen hp ⊢
  by_cases c0 : wd (wordsB s) 0 = getB
  · rw [if_pos c0]
    rw [decide_eq_true c0] at e0
    by_cases h1 : n = 1
    · subst h1
      rw [if_neg (by omega)]
      exact par_get_one s hs hn w e0
    · by_cases h17 : n ≤ 17
      · have ht : (wordsB s).take n = wordsB s := List.take_of_length_le (by omega)
        cases hk : ((wordsB s).drop 1).all keyP with
        | true =>
          rw [if_pos ⟨by omega, h17, rfl⟩]
          have h := par_get s hs n hn (by omega) (by omega) (by omega) h17 w e0 (by rw [ht]; exact hk)
          rw [ht] at h
          exact h
        | false =>
          rw [if_neg (by simp)]
          exact par_get_k s hs n hn (by omega) (by omega) (by omega) h17 w e0 (by rw [ht]; exact hk)
      · rw [if_neg (by omega)]
        exact par_get_big s hs n hn (by omega) (by omega) (by omega) w e0
  rw [if_neg c0]
  rw [decide_eq_false c0] at e0
  by_cases c1 : wd (wordsB s) 0 = setB
  · rw [if_pos c1]
    rw [decide_eq_true c1] at e1
    exact par_set s hs n hn hp hlen w e0 e1
  rw [if_neg c1]
  rw [decide_eq_false c1] at e1
  by_cases c2 : wd (wordsB s) 0 = deleteB
  · rw [if_pos c2]
    rw [decide_eq_true c2] at e2
    by_cases h2 : n = 2
    · subst h2
      obtain ⟨ha, hb⟩ := all_two (wordsB s) (by omega)
      cases hk : keyP (wd (wordsB s) 1) with
      | true =>
        rw [if_pos ⟨Or.inl rfl, rfl⟩]
        have h := par_delete_no s hs hn w e0 e1 e2 (by rw [ha, hk])
        rw [hb] at h
        exact h
      | false => rw [if_neg (by simp)]; exact par_delete_no_k s hs hn w e0 e1 e2 (by rw [ha, hk])
    · by_cases h3 : n = 3
      · subst h3
        obtain ⟨ha, hb⟩ := all_two (wordsB s) (by omega)
        by_cases hr : wd (wordsB s) 2 = noreplyB
        · rw [decide_eq_true hr] at n2
          cases hk : keyP (wd (wordsB s) 1) with
          | true =>
            rw [if_pos ⟨Or.inr ⟨rfl, hr⟩, rfl⟩]
            have h := par_delete_yes s hs hn w e0 e1 e2 n2 (by rw [ha, hk])
            rw [hb] at h
            exact h
          | false => rw [if_neg (by simp)]; exact par_delete_yes_k s hs hn w e0 e1 e2 n2 (by rw [ha, hk])
        · rw [decide_eq_false hr] at n2
          rw [if_neg (by rintro ⟨h | h, _⟩; exact absurd h (by omega); exact hr h.2)]
          exact par_delete_x s hs hn w e0 e1 e2 n2
      · rw [if_neg (by omega)]
        exact par_delete_n s hs n hn hp hlen h2 h3 w e0 e1 e2
  rw [if_neg c2]
  rw [decide_eq_false c2] at e2
  by_cases c3 : wd (wordsB s) 0 = touchB
  · rw [if_pos c3]
    rw [decide_eq_true c3] at e3
    by_cases h2 : n = 3
    · subst h2
      obtain ⟨ha, hb⟩ := all_two (wordsB s) (by omega)
      cases hm : momB (wd (wordsB s) 2) with
      | false => rw [if_neg (by simp)]; exact par_touch_no_m s hs hn w e0 e1 e2 e3 hm
      | true =>
        cases hk : keyP (wd (wordsB s) 1) with
        | true =>
          rw [if_pos ⟨Or.inl rfl, rfl, rfl⟩]
          have h := par_touch_no s hs hn w e0 e1 e2 e3 hm (by rw [ha, hk])
          rw [hb] at h
          exact h
        | false => rw [if_neg (by simp)]; exact par_touch_no_k s hs hn w e0 e1 e2 e3 hm (by rw [ha, hk])
    · by_cases h3 : n = 4
      · subst h3
        obtain ⟨ha, hb⟩ := all_two (wordsB s) (by omega)
        by_cases hr : wd (wordsB s) 3 = noreplyB
        · rw [decide_eq_true hr] at n3
          cases hm : momB (wd (wordsB s) 2) with
          | false => rw [if_neg (by simp)]; exact par_touch_yes_m s hs hn w e0 e1 e2 e3 n3 hm
          | true =>
            cases hk : keyP (wd (wordsB s) 1) with
            | true =>
              rw [if_pos ⟨Or.inr ⟨rfl, hr⟩, rfl, rfl⟩]
              have h := par_touch_yes s hs hn w e0 e1 e2 e3 n3 hm (by rw [ha, hk])
              rw [hb] at h
              exact h
            | false => rw [if_neg (by simp)]; exact par_touch_yes_k s hs hn w e0 e1 e2 e3 n3 hm (by rw [ha, hk])
        · rw [decide_eq_false hr] at n3
          rw [if_neg (by rintro ⟨h | h, _⟩; exact absurd h (by omega); exact hr h.2)]
          exact par_touch_x s hs hn w e0 e1 e2 e3 n3
      · rw [if_neg (by omega)]
        exact par_touch_n s hs n hn hp hlen h2 h3 w e0 e1 e2 e3
  rw [if_neg c3]
  rw [decide_eq_false c3] at e3
  by_cases c4 : wd (wordsB s) 0 = statsB
  · rw [if_pos c4]
    rw [decide_eq_true c4] at e4
    by_cases h1 : n = 1
    · subst h1; rw [if_pos rfl]; exact par_stats s hs hn w e0 e1 e2 e3 e4
    · rw [if_neg h1]; exact par_stats_n s hs n hn hp hlen h1 w e0 e1 e2 e3 e4
  rw [if_neg c4]
  rw [decide_eq_false c4] at e4
  by_cases c5 : wd (wordsB s) 0 = versionB
  · rw [if_pos c5]
    rw [decide_eq_true c5] at e5
    by_cases h1 : n = 1
    · subst h1; rw [if_pos rfl]; exact par_version s hs hn w e0 e1 e2 e3 e4 e5
    · rw [if_neg h1]; exact par_version_n s hs n hn hp hlen h1 w e0 e1 e2 e3 e4 e5
  rw [if_neg c5]
  rw [decide_eq_false c5] at e5
  by_cases c6 : wd (wordsB s) 0 = quitB
  · rw [if_pos c6]
    rw [decide_eq_true c6] at e6
    by_cases h1 : n = 1
    · subst h1; rw [if_pos rfl]; exact par_quit s hs hn w e0 e1 e2 e3 e4 e5 e6
    · rw [if_neg h1]; exact par_quit_n s hs n hn hp hlen h1 w e0 e1 e2 e3 e4 e5 e6
  rw [if_neg c6]
  rw [decide_eq_false c6] at e6
  exact par_err s hs n hn hp hlen w e0 e1 e2 e3 e4 e5 e6
end Go.Proofs.YthinmioognadpaaDoor.Cmd

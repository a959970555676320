/- The ways through cmd.set (printed by wip/tools/gen_cmdset.py, a program of this session). -/
import Derived.Test.YtpfggidfcbgaiaaDoorCmdSetW
namespace Go.Proofs.YtpfggidfcbgaiaaDoor.Cmd
open Go.RowKit Go.Proofs.YtpfggidfcbgaiaaDoorW.PrintWords Go.Proofs.YtpfggidfcbgaiaaDoorW.PrintLast Go.Proofs.YtpfggidfcbgaiaaDoorW.PrintMore Go.Proofs.YtpfggidfcbgaiaaDoor.PCmd Go.Proofs.YtpfggidfcbgaiaaDoor.Split
set_option linter.unusedVariables false
set_option linter.unusedSimpArgs false
set_option maxRecDepth 100000 in
set_option maxHeartbeats 1600000 in
theorem set_other (g cap n : Nat) (s1 s2 s3 s4 s5 : ByteArray) (w : World) (hg : g < w.heap.size) (h5 : n ≠ 5) (h6 : n ≠ 6) (hn : n ≤ 1000001) :
    Calls Tryd.prog 16 #[.slice (some ⟨g, 0, none⟩) n cap] w fun e w' => e = .returned (.tuple #[.agg #[.int .i64 8, .slice none 0 0, .int .u32 0, .int .i64 0, .string ⟨#[]⟩, .bool false, .string fmtB], .int .i64 (-1)]) ∧ Below w.heap.size w w' := by
  have CQ : Hid (∀ w, Calls Tryd.prog 17 #[.slice (some ⟨g, 0, none⟩) n cap, .int .i64 5] w fun e w' => e = .returned (.tuple #[.slice (some ⟨g, 0, none⟩) n cap, .bool false]) ∧ w = w') := Lib.hid (fun w => quiet_ne g n cap 5 w (by omega) (by omega))
  have t5 : ((n : Int) == 5) = false := beq_eq_false_iff_ne.2 (by omega)
  have t6 : ((n : Int) == 6) = false := beq_eq_false_iff_ne.2 (by omega)
  have u5 : ((n : Int) != 5) = true := bne_iff_ne.2 (by omega)
  clear h5 h6
  skip
  have CB := Lib.hid (fun w => bad_fmt w)
  go_enter Tryd.func16, Tryd.ntmps16
  go_wp2_with (first
    | (go_at_call 17; (with_reducible refine (CQ.out _).mono ?_); rintro e w' ⟨rfl, rfl⟩)
    | (go_at_call 15; (with_reducible refine (CB.out _).mono ?_); rintro e w1 ⟨rfl, hb1⟩; obtain ⟨hc9, hf9⟩ := bcell hb1))
  clear hc9 hf9
  have hblk := Lib.hid (blk_new w (.cells #[.int .i64 0, .slice none 0 0, .int .u32 0, .int .i64 0, .string ⟨#[]⟩, .bool false, .string ⟨#[]⟩] 26))
  have hbel := Lib.hid (below_alloc (Below.refl w.heap.size w) (.cells #[.int .i64 0, .slice none 0 0, .int .u32 0, .int .i64 0, .string ⟨#[]⟩, .bool false, .string ⟨#[]⟩] 26))
  generalize w.alloc (.cells #[.int .i64 0, .slice none 0 0, .int .u32 0, .int .i64 0, .string ⟨#[]⟩, .bool false, .string ⟨#[]⟩] 26) = wa at *
  refine bodyPost_ret (results_ct (p := 2) (u := 3) (ty := 26) (fn := Tryd.f16) ?h0 _ _ w.heap.size 26 #[.int .i64 8, .slice none 0 0, .int .u32 0, .int .i64 0, .string ⟨#[]⟩, .bool false, .string fmtB] (0, 0) _ ?h1 ?h2 Tryd.underlying26 rfl (by kernel_rfl)) ?h3 ?h4
  case h0 => rfl
  case h1 => rfl
  case h3 => rfl
  case h2 =>
    refine put7 (c0 := .int .i64 0) (c1 := .slice none 0 0) (c2 := .int .u32 0) (c3 := .int .i64 0) (c4 := .string ⟨#[]⟩) (c5 := .bool false) (c6 := .string ⟨#[]⟩) ?_
    refine blk_below ?_ hb1
    repeat (with_reducible first | exact hblk.out | apply far1 | apply blk_drewN | apply blk_alloc)
  case h4 =>
    refine ⟨rfl, ?_⟩
    repeat (first | (with_reducible first | exact hbel.out | apply below_alloc | apply pw_below_drewN) | refine below_set ?_ (by omega) | refine below_step ?_ hb1)
set_option maxRecDepth 100000 in
set_option maxHeartbeats 1600000 in
theorem set_amt_5 (g cap : Nat) (s1 s2 s3 s4 s5 : ByteArray) (w : World) (hg : g < w.heap.size) (hcap : 5 ≤ cap) (x4 : w.cell? ⟨g, 4, none⟩ = some (.string s4)) (hb4 : amtB s4 = false) :
    Calls Tryd.prog 16 #[.slice (some ⟨g, 0, none⟩) 5 cap] w fun e w' => e = .returned (.tuple #[.agg #[.int .i64 8, .slice none 0 0, .int .u32 0, .int .i64 0, .string ⟨#[]⟩, .bool false, .string fmtB], .int .i64 (-1)]) ∧ Below w.heap.size w w' := by
  have CQ : Hid (∀ w, Calls Tryd.prog 17 #[.slice (some ⟨g, 0, none⟩) 5 cap, .int .i64 5] w fun e w' => e = .returned (.tuple #[.slice (some ⟨g, 0, none⟩) 5 cap, .bool false]) ∧ w = w') := Lib.hid (fun w => quiet_ne g 5 cap 5 w (by omega) (by omega))
  have C4 := Lib.hid (fun w => amount_c s4 w)
  rw [hb4] at C4
  clear hb4
  have CB := Lib.hid (fun w => bad_fmt w)
  go_enter Tryd.func16, Tryd.ntmps16
  go_wp2_with (first
    | (go_at_call 25; first | ((with_reducible refine (C4.out _).mono ?_); rintro e w' ⟨rfl, ⟨nd, rfl⟩⟩))
    | (go_at_call 17; (with_reducible refine (CQ.out _).mono ?_); rintro e w' ⟨rfl, rfl⟩)
    | (go_at_call 15; (with_reducible refine (CB.out _).mono ?_); rintro e w1 ⟨rfl, hb1⟩; obtain ⟨hc9, hf9⟩ := bcell hb1))
  clear hc9 hf9
  have hblk := Lib.hid (blk_new w (.cells #[.int .i64 0, .slice none 0 0, .int .u32 0, .int .i64 0, .string ⟨#[]⟩, .bool false, .string ⟨#[]⟩] 26))
  have hbel := Lib.hid (below_alloc (Below.refl w.heap.size w) (.cells #[.int .i64 0, .slice none 0 0, .int .u32 0, .int .i64 0, .string ⟨#[]⟩, .bool false, .string ⟨#[]⟩] 26))
  generalize w.alloc (.cells #[.int .i64 0, .slice none 0 0, .int .u32 0, .int .i64 0, .string ⟨#[]⟩, .bool false, .string ⟨#[]⟩] 26) = wa at *
  refine bodyPost_ret (results_ct (p := 2) (u := 3) (ty := 26) (fn := Tryd.f16) ?h0 _ _ w.heap.size 26 #[.int .i64 8, .slice none 0 0, .int .u32 0, .int .i64 0, .string ⟨#[]⟩, .bool false, .string fmtB] (0, 0) _ ?h1 ?h2 Tryd.underlying26 rfl (by kernel_rfl)) ?h3 ?h4
  case h0 => rfl
  case h1 => rfl
  case h3 => rfl
  case h2 =>
    refine put7 (c0 := .int .i64 0) (c1 := .slice none 0 0) (c2 := .int .u32 0) (c3 := .int .i64 0) (c4 := .string ⟨#[]⟩) (c5 := .bool false) (c6 := .string ⟨#[]⟩) ?_
    refine blk_below ?_ hb1
    repeat (with_reducible first | exact hblk.out | apply far1 | apply blk_drewN | apply blk_alloc)
  case h4 =>
    refine ⟨rfl, ?_⟩
    repeat (first | (with_reducible first | exact hbel.out | apply below_alloc | apply pw_below_drewN) | refine below_set ?_ (by omega) | refine below_step ?_ hb1)
set_option maxRecDepth 100000 in
set_option maxHeartbeats 1600000 in
theorem set_amt_no (g cap : Nat) (s1 s2 s3 s4 s5 : ByteArray) (w : World) (hg : g < w.heap.size) (hcap : 6 ≤ cap) (x4 : w.cell? ⟨g, 4, none⟩ = some (.string s4)) (hb4 : amtB s4 = false) (x5 : w.cell? ⟨g, 5, none⟩ = some (.string s5)) (hs5 : (s5.toList == [110, 111, 114, 101, 112, 108, 121]) = false) :
    Calls Tryd.prog 16 #[.slice (some ⟨g, 0, none⟩) 6 cap] w fun e w' => e = .returned (.tuple #[.agg #[.int .i64 8, .slice none 0 0, .int .u32 0, .int .i64 0, .string ⟨#[]⟩, .bool false, .string fmtB], .int .i64 (-1)]) ∧ Below w.heap.size w w' := by
  have CQ : Hid (∀ w : World, w.cell? ⟨g, 5, none⟩ = some (.string s5) → Calls Tryd.prog 17 #[.slice (some ⟨g, 0, none⟩) 6 cap, .int .i64 5] w fun e w' => e = .returned (.tuple #[.slice (some ⟨g, 0, none⟩) 6 cap, .bool false]) ∧ w = w') := Lib.hid (fun w hc => quiet_no g cap 5 s5 w hc hs5 (by omega))
  clear hs5
  have C4 := Lib.hid (fun w => amount_c s4 w)
  rw [hb4] at C4
  clear hb4
  have CB := Lib.hid (fun w => bad_fmt w)
  go_enter Tryd.func16, Tryd.ntmps16
  go_wp2_with (first
    | (go_at_call 25; first | ((with_reducible refine (C4.out _).mono ?_); rintro e w' ⟨rfl, ⟨nd, rfl⟩⟩))
    | (go_at_call 17; (with_reducible refine (CQ.out _ (by go_simp)).mono ?_); rintro e w' ⟨rfl, rfl⟩)
    | (go_at_call 15; (with_reducible refine (CB.out _).mono ?_); rintro e w1 ⟨rfl, hb1⟩; obtain ⟨hc9, hf9⟩ := bcell hb1))
  clear hc9 hf9
  have hblk := Lib.hid (blk_new w (.cells #[.int .i64 0, .slice none 0 0, .int .u32 0, .int .i64 0, .string ⟨#[]⟩, .bool false, .string ⟨#[]⟩] 26))
  have hbel := Lib.hid (below_alloc (Below.refl w.heap.size w) (.cells #[.int .i64 0, .slice none 0 0, .int .u32 0, .int .i64 0, .string ⟨#[]⟩, .bool false, .string ⟨#[]⟩] 26))
  generalize w.alloc (.cells #[.int .i64 0, .slice none 0 0, .int .u32 0, .int .i64 0, .string ⟨#[]⟩, .bool false, .string ⟨#[]⟩] 26) = wa at *
  refine bodyPost_ret (results_ct (p := 2) (u := 3) (ty := 26) (fn := Tryd.f16) ?h0 _ _ w.heap.size 26 #[.int .i64 8, .slice none 0 0, .int .u32 0, .int .i64 0, .string ⟨#[]⟩, .bool false, .string fmtB] (0, 0) _ ?h1 ?h2 Tryd.underlying26 rfl (by kernel_rfl)) ?h3 ?h4
  case h0 => rfl
  case h1 => rfl
  case h3 => rfl
  case h2 =>
    refine put7 (c0 := .int .i64 0) (c1 := .slice none 0 0) (c2 := .int .u32 0) (c3 := .int .i64 0) (c4 := .string ⟨#[]⟩) (c5 := .bool false) (c6 := .string ⟨#[]⟩) ?_
    refine blk_below ?_ hb1
    repeat (with_reducible first | exact hblk.out | apply far1 | apply blk_drewN | apply blk_alloc)
  case h4 =>
    refine ⟨rfl, ?_⟩
    repeat (first | (with_reducible first | exact hbel.out | apply below_alloc | apply pw_below_drewN) | refine below_set ?_ (by omega) | refine below_step ?_ hb1)
set_option maxRecDepth 100000 in
set_option maxHeartbeats 1600000 in
theorem set_amt_yes (g cap : Nat) (s1 s2 s3 s4 s5 : ByteArray) (w : World) (hg : g < w.heap.size) (hcap : 6 ≤ cap) (x4 : w.cell? ⟨g, 4, none⟩ = some (.string s4)) (hb4 : amtB s4 = false) (x5 : w.cell? ⟨g, 5, none⟩ = some (.string s5)) (hs5 : (s5.toList == [110, 111, 114, 101, 112, 108, 121]) = true) :
    Calls Tryd.prog 16 #[.slice (some ⟨g, 0, none⟩) 6 cap] w fun e w' => e = .returned (.tuple #[.agg #[.int .i64 8, .slice none 0 0, .int .u32 0, .int .i64 0, .string ⟨#[]⟩, .bool false, .string fmtB], .int .i64 (-1)]) ∧ Below w.heap.size w w' := by
  have CQ : Hid (∀ w : World, w.cell? ⟨g, 5, none⟩ = some (.string s5) → Calls Tryd.prog 17 #[.slice (some ⟨g, 0, none⟩) 6 cap, .int .i64 5] w fun e w' => e = .returned (.tuple #[.slice (some ⟨g, 0, none⟩) 5 cap, .bool true]) ∧ w = w') := Lib.hid (fun w hc => quiet_yes g cap 5 s5 w hc hs5 (by omega) (by omega))
  clear hs5
  have C4 := Lib.hid (fun w => amount_c s4 w)
  rw [hb4] at C4
  clear hb4
  have CB := Lib.hid (fun w => bad_fmt w)
  go_enter Tryd.func16, Tryd.ntmps16
  go_wp2_with (first
    | (go_at_call 25; first | ((with_reducible refine (C4.out _).mono ?_); rintro e w' ⟨rfl, ⟨nd, rfl⟩⟩))
    | (go_at_call 17; (with_reducible refine (CQ.out _ (by go_simp)).mono ?_); rintro e w' ⟨rfl, rfl⟩)
    | (go_at_call 15; (with_reducible refine (CB.out _).mono ?_); rintro e w1 ⟨rfl, hb1⟩; obtain ⟨hc9, hf9⟩ := bcell hb1))
  clear hc9 hf9
  have hblk := Lib.hid (blk_new w (.cells #[.int .i64 0, .slice none 0 0, .int .u32 0, .int .i64 0, .string ⟨#[]⟩, .bool false, .string ⟨#[]⟩] 26))
  have hbel := Lib.hid (below_alloc (Below.refl w.heap.size w) (.cells #[.int .i64 0, .slice none 0 0, .int .u32 0, .int .i64 0, .string ⟨#[]⟩, .bool false, .string ⟨#[]⟩] 26))
  generalize w.alloc (.cells #[.int .i64 0, .slice none 0 0, .int .u32 0, .int .i64 0, .string ⟨#[]⟩, .bool false, .string ⟨#[]⟩] 26) = wa at *
  refine bodyPost_ret (results_ct (p := 2) (u := 3) (ty := 26) (fn := Tryd.f16) ?h0 _ _ w.heap.size 26 #[.int .i64 8, .slice none 0 0, .int .u32 0, .int .i64 0, .string ⟨#[]⟩, .bool false, .string fmtB] (0, 0) _ ?h1 ?h2 Tryd.underlying26 rfl (by kernel_rfl)) ?h3 ?h4
  case h0 => rfl
  case h1 => rfl
  case h3 => rfl
  case h2 =>
    refine put7 (c0 := .int .i64 0) (c1 := .slice none 0 0) (c2 := .int .u32 0) (c3 := .int .i64 0) (c4 := .string ⟨#[]⟩) (c5 := .bool false) (c6 := .string ⟨#[]⟩) ?_
    refine blk_below ?_ hb1
    repeat (with_reducible first | exact hblk.out | apply far1 | apply blk_drewN | apply blk_alloc)
  case h4 =>
    refine ⟨rfl, ?_⟩
    repeat (first | (with_reducible first | exact hbel.out | apply below_alloc | apply pw_below_drewN) | refine below_set ?_ (by omega) | refine below_step ?_ hb1)
set_option maxRecDepth 100000 in
set_option maxHeartbeats 1600000 in
theorem set_six (g cap : Nat) (s1 s2 s3 s4 s5 : ByteArray) (w : World) (hg : g < w.heap.size) (hcap : 6 ≤ cap) (x4 : w.cell? ⟨g, 4, none⟩ = some (.string s4)) (hb4 : amtB s4 = true) (x5 : w.cell? ⟨g, 5, none⟩ = some (.string s5)) (hs5 : (s5.toList == [110, 111, 114, 101, 112, 108, 121]) = false) (hd : decide (amtV s4 < 0) = false) :
    Calls Tryd.prog 16 #[.slice (some ⟨g, 0, none⟩) 6 cap] w fun e w' => e = .returned (.tuple #[.agg #[.int .i64 8, .slice none 0 0, .int .u32 0, .int .i64 0, .string ⟨#[]⟩, .bool false, .string fmtB], .int .i64 (amtV s4)]) ∧ Below w.heap.size w w' := by
  have CQ : Hid (∀ w : World, w.cell? ⟨g, 5, none⟩ = some (.string s5) → Calls Tryd.prog 17 #[.slice (some ⟨g, 0, none⟩) 6 cap, .int .i64 5] w fun e w' => e = .returned (.tuple #[.slice (some ⟨g, 0, none⟩) 6 cap, .bool false]) ∧ w = w') := Lib.hid (fun w hc => quiet_no g cap 5 s5 w hc hs5 (by omega))
  clear hs5
  have C4 := Lib.hid (fun w => amount_c s4 w)
  rw [hb4] at C4
  clear hb4
  have CB := Lib.hid (fun w => bad_fmt w)
  go_enter Tryd.func16, Tryd.ntmps16
  go_wp2_with (first
    | (go_at_call 25; first | ((with_reducible refine (C4.out _).mono ?_); rintro e w' ⟨rfl, ⟨nd, rfl⟩⟩))
    | (go_at_call 17; (with_reducible refine (CQ.out _ (by go_simp)).mono ?_); rintro e w' ⟨rfl, rfl⟩)
    | (go_at_call 15; (with_reducible refine (CB.out _).mono ?_); rintro e w1 ⟨rfl, hb1⟩; obtain ⟨hc9, hf9⟩ := bcell hb1))
  clear hc9 hf9
  have hblk := Lib.hid (blk_new w (.cells #[.int .i64 0, .slice none 0 0, .int .u32 0, .int .i64 0, .string ⟨#[]⟩, .bool false, .string ⟨#[]⟩] 26))
  have hbel := Lib.hid (below_alloc (Below.refl w.heap.size w) (.cells #[.int .i64 0, .slice none 0 0, .int .u32 0, .int .i64 0, .string ⟨#[]⟩, .bool false, .string ⟨#[]⟩] 26))
  generalize w.alloc (.cells #[.int .i64 0, .slice none 0 0, .int .u32 0, .int .i64 0, .string ⟨#[]⟩, .bool false, .string ⟨#[]⟩] 26) = wa at *
  refine bodyPost_ret (results_ct (p := 2) (u := 3) (ty := 26) (fn := Tryd.f16) ?h0 _ _ w.heap.size 26 #[.int .i64 8, .slice none 0 0, .int .u32 0, .int .i64 0, .string ⟨#[]⟩, .bool false, .string fmtB] (0, 0) _ ?h1 ?h2 Tryd.underlying26 rfl (by kernel_rfl)) ?h3 ?h4
  case h0 => rfl
  case h1 => rfl
  case h3 => rfl
  case h2 =>
    refine put7 (c0 := .int .i64 0) (c1 := .slice none 0 0) (c2 := .int .u32 0) (c3 := .int .i64 0) (c4 := .string ⟨#[]⟩) (c5 := .bool false) (c6 := .string ⟨#[]⟩) ?_
    refine blk_below ?_ hb1
    repeat (with_reducible first | exact hblk.out | apply far1 | apply blk_drewN | apply blk_alloc)
  case h4 =>
    refine ⟨rfl, ?_⟩
    repeat (first | (with_reducible first | exact hbel.out | apply below_alloc | apply pw_below_drewN) | refine below_set ?_ (by omega) | refine below_step ?_ hb1)
set_option maxRecDepth 100000 in
set_option maxHeartbeats 1600000 in
theorem set_a_5 (g cap : Nat) (s1 s2 s3 s4 s5 : ByteArray) (w : World) (hg : g < w.heap.size) (hcap : 5 ≤ cap) (x4 : w.cell? ⟨g, 4, none⟩ = some (.string s4)) (hb4 : amtB s4 = true) (hd : decide (amtV s4 < 0) = false) (x2 : w.cell? ⟨g, 2, none⟩ = some (.string s2)) (x3 : w.cell? ⟨g, 3, none⟩ = some (.string s3)) (z3 : s3.size ≤ 1000000) (hb2 : amtB s2 = false) :
    Calls Tryd.prog 16 #[.slice (some ⟨g, 0, none⟩) 5 cap] w fun e w' => e = .returned (.tuple #[.agg #[.int .i64 8, .slice none 0 0, .int .u32 0, .int .i64 0, .string ⟨#[]⟩, .bool false, .string fmtB], .int .i64 (amtV s4)]) ∧ Below w.heap.size w w' := by
  have CQ : Hid (∀ w, Calls Tryd.prog 17 #[.slice (some ⟨g, 0, none⟩) 5 cap, .int .i64 5] w fun e w' => e = .returned (.tuple #[.slice (some ⟨g, 0, none⟩) 5 cap, .bool false]) ∧ w = w') := Lib.hid (fun w => quiet_ne g 5 cap 5 w (by omega) (by omega))
  have C4 := Lib.hid (fun w => amount_c s4 w)
  rw [hb4] at C4
  have C2 := Lib.hid (fun w => amount_c s2 w)
  rw [hb2] at C2
  have C3 := Lib.hid (fun w => moment_c s3 z3 w)
  clear hb4 hb2
  have CB := Lib.hid (fun w => bad_fmt w)
  go_enter Tryd.func16, Tryd.ntmps16
  go_wp2_with (first
    | (go_at_call 25; first | ((with_reducible refine (C4.out _).mono ?_); rintro e w' ⟨rfl, ⟨nd, rfl⟩⟩) | ((with_reducible refine (C2.out _).mono ?_); rintro e w' ⟨rfl, ⟨nd, rfl⟩⟩))
    | (go_at_call 18; (with_reducible refine (C3.out _).mono ?_); rintro e w' ⟨rfl, ⟨nd, rfl⟩⟩)
    | (go_at_call 17; (with_reducible refine (CQ.out _).mono ?_); rintro e w' ⟨rfl, rfl⟩)
    | (go_at_call 15; (with_reducible refine (CB.out _).mono ?_); rintro e w1 ⟨rfl, hb1⟩; obtain ⟨hc9, hf9⟩ := bcell hb1))
  clear hc9 hf9
  have hblk := Lib.hid (blk_new w (.cells #[.int .i64 0, .slice none 0 0, .int .u32 0, .int .i64 0, .string ⟨#[]⟩, .bool false, .string ⟨#[]⟩] 26))
  have hbel := Lib.hid (below_alloc (Below.refl w.heap.size w) (.cells #[.int .i64 0, .slice none 0 0, .int .u32 0, .int .i64 0, .string ⟨#[]⟩, .bool false, .string ⟨#[]⟩] 26))
  generalize w.alloc (.cells #[.int .i64 0, .slice none 0 0, .int .u32 0, .int .i64 0, .string ⟨#[]⟩, .bool false, .string ⟨#[]⟩] 26) = wa at *
  refine bodyPost_ret (results_ct (p := 2) (u := 3) (ty := 26) (fn := Tryd.f16) ?h0 _ _ w.heap.size 26 #[.int .i64 8, .slice none 0 0, .int .u32 0, .int .i64 0, .string ⟨#[]⟩, .bool false, .string fmtB] (0, 0) _ ?h1 ?h2 Tryd.underlying26 rfl (by kernel_rfl)) ?h3 ?h4
  case h0 => rfl
  case h1 => rfl
  case h3 => rfl
  case h2 =>
    refine put7 (c0 := .int .i64 0) (c1 := .slice none 0 0) (c2 := .int .u32 0) (c3 := .int .i64 0) (c4 := .string ⟨#[]⟩) (c5 := .bool false) (c6 := .string ⟨#[]⟩) ?_
    refine blk_below ?_ hb1
    repeat (with_reducible first | exact hblk.out | apply far1 | apply blk_drewN | apply blk_alloc)
  case h4 =>
    refine ⟨rfl, ?_⟩
    repeat (first | (with_reducible first | exact hbel.out | apply below_alloc | apply pw_below_drewN) | refine below_set ?_ (by omega) | refine below_step ?_ hb1)
set_option maxRecDepth 100000 in
set_option maxHeartbeats 1600000 in
theorem set_b_5 (g cap : Nat) (s1 s2 s3 s4 s5 : ByteArray) (w : World) (hg : g < w.heap.size) (hcap : 5 ≤ cap) (x4 : w.cell? ⟨g, 4, none⟩ = some (.string s4)) (hb4 : amtB s4 = true) (hd : decide (amtV s4 < 0) = false) (x2 : w.cell? ⟨g, 2, none⟩ = some (.string s2)) (x3 : w.cell? ⟨g, 3, none⟩ = some (.string s3)) (z3 : s3.size ≤ 1000000) (hb2 : amtB s2 = true) (hb3 : momB s3 = false) :
    Calls Tryd.prog 16 #[.slice (some ⟨g, 0, none⟩) 5 cap] w fun e w' => e = .returned (.tuple #[.agg #[.int .i64 8, .slice none 0 0, .int .u32 0, .int .i64 0, .string ⟨#[]⟩, .bool false, .string fmtB], .int .i64 (amtV s4)]) ∧ Below w.heap.size w w' := by
  have CQ : Hid (∀ w, Calls Tryd.prog 17 #[.slice (some ⟨g, 0, none⟩) 5 cap, .int .i64 5] w fun e w' => e = .returned (.tuple #[.slice (some ⟨g, 0, none⟩) 5 cap, .bool false]) ∧ w = w') := Lib.hid (fun w => quiet_ne g 5 cap 5 w (by omega) (by omega))
  have C4 := Lib.hid (fun w => amount_c s4 w)
  rw [hb4] at C4
  have C2 := Lib.hid (fun w => amount_c s2 w)
  rw [hb2] at C2
  have C3 := Lib.hid (fun w => moment_c s3 z3 w)
  rw [hb3] at C3
  clear hb4 hb2 hb3
  have CB := Lib.hid (fun w => bad_fmt w)
  go_enter Tryd.func16, Tryd.ntmps16
  go_wp2_with (first
    | (go_at_call 25; first | ((with_reducible refine (C4.out _).mono ?_); rintro e w' ⟨rfl, ⟨nd, rfl⟩⟩) | ((with_reducible refine (C2.out _).mono ?_); rintro e w' ⟨rfl, ⟨nd, rfl⟩⟩))
    | (go_at_call 18; (with_reducible refine (C3.out _).mono ?_); rintro e w' ⟨rfl, ⟨nd, rfl⟩⟩)
    | (go_at_call 17; (with_reducible refine (CQ.out _).mono ?_); rintro e w' ⟨rfl, rfl⟩)
    | (go_at_call 15; (with_reducible refine (CB.out _).mono ?_); rintro e w1 ⟨rfl, hb1⟩; obtain ⟨hc9, hf9⟩ := bcell hb1))
  clear hc9 hf9
  have hblk := Lib.hid (blk_new w (.cells #[.int .i64 0, .slice none 0 0, .int .u32 0, .int .i64 0, .string ⟨#[]⟩, .bool false, .string ⟨#[]⟩] 26))
  have hbel := Lib.hid (below_alloc (Below.refl w.heap.size w) (.cells #[.int .i64 0, .slice none 0 0, .int .u32 0, .int .i64 0, .string ⟨#[]⟩, .bool false, .string ⟨#[]⟩] 26))
  generalize w.alloc (.cells #[.int .i64 0, .slice none 0 0, .int .u32 0, .int .i64 0, .string ⟨#[]⟩, .bool false, .string ⟨#[]⟩] 26) = wa at *
  refine bodyPost_ret (results_ct (p := 2) (u := 3) (ty := 26) (fn := Tryd.f16) ?h0 _ _ w.heap.size 26 #[.int .i64 8, .slice none 0 0, .int .u32 0, .int .i64 0, .string ⟨#[]⟩, .bool false, .string fmtB] (0, 0) _ ?h1 ?h2 Tryd.underlying26 rfl (by kernel_rfl)) ?h3 ?h4
  case h0 => rfl
  case h1 => rfl
  case h3 => rfl
  case h2 =>
    refine put7 (c0 := .int .i64 0) (c1 := .slice none 0 0) (c2 := .int .u32 0) (c3 := .int .i64 0) (c4 := .string ⟨#[]⟩) (c5 := .bool false) (c6 := .string ⟨#[]⟩) ?_
    refine blk_below ?_ hb1
    repeat (with_reducible first | exact hblk.out | apply far1 | apply blk_drewN | apply blk_alloc)
  case h4 =>
    refine ⟨rfl, ?_⟩
    repeat (first | (with_reducible first | exact hbel.out | apply below_alloc | apply pw_below_drewN) | refine below_set ?_ (by omega) | refine below_step ?_ hb1)
set_option maxRecDepth 100000 in
set_option maxHeartbeats 1600000 in
theorem set_k_5 (g cap : Nat) (s1 s2 s3 s4 s5 : ByteArray) (w : World) (hg : g < w.heap.size) (hcap : 5 ≤ cap) (x4 : w.cell? ⟨g, 4, none⟩ = some (.string s4)) (hb4 : amtB s4 = true) (hd : decide (amtV s4 < 0) = false) (x2 : w.cell? ⟨g, 2, none⟩ = some (.string s2)) (x3 : w.cell? ⟨g, 3, none⟩ = some (.string s3)) (z3 : s3.size ≤ 1000000) (hb2 : amtB s2 = true) (hb3 : momB s3 = true) (x1 : w.cell? ⟨g, 1, none⟩ = some (.string s1)) (z1 : s1.size ≤ 1000000) (hb1 : keyP s1 = false) :
    Calls Tryd.prog 16 #[.slice (some ⟨g, 0, none⟩) 5 cap] w fun e w' => e = .returned (.tuple #[.agg #[.int .i64 8, .slice none 0 0, .int .u32 0, .int .i64 0, .string ⟨#[]⟩, .bool false, .string fmtB], .int .i64 (amtV s4)]) ∧ Below w.heap.size w w' := by
  have CQ : Hid (∀ w, Calls Tryd.prog 17 #[.slice (some ⟨g, 0, none⟩) 5 cap, .int .i64 5] w fun e w' => e = .returned (.tuple #[.slice (some ⟨g, 0, none⟩) 5 cap, .bool false]) ∧ w = w') := Lib.hid (fun w => quiet_ne g 5 cap 5 w (by omega) (by omega))
  have C4 := Lib.hid (fun w => amount_c s4 w)
  rw [hb4] at C4
  have C2 := Lib.hid (fun w => amount_c s2 w)
  rw [hb2] at C2
  have C3 := Lib.hid (fun w => moment_c s3 z3 w)
  rw [hb3] at C3
  have C1 := Lib.hid (fun w => key_c s1 z1 w)
  rw [hb1] at C1
  clear hb4 hb2 hb3 hb1
  have CB := Lib.hid (fun w => bad_fmt w)
  go_enter Tryd.func16, Tryd.ntmps16
  go_wp2_with (first
    | (go_at_call 25; first | ((with_reducible refine (C4.out _).mono ?_); rintro e w' ⟨rfl, ⟨nd, rfl⟩⟩) | ((with_reducible refine (C2.out _).mono ?_); rintro e w' ⟨rfl, ⟨nd, rfl⟩⟩))
    | (go_at_call 18; (with_reducible refine (C3.out _).mono ?_); rintro e w' ⟨rfl, ⟨nd, rfl⟩⟩)
    | (go_at_call 26; (with_reducible refine (C1.out _).mono ?_); rintro e w' ⟨rfl, ⟨nd, rfl⟩⟩)
    | (go_at_call 17; (with_reducible refine (CQ.out _).mono ?_); rintro e w' ⟨rfl, rfl⟩)
    | (go_at_call 15; (with_reducible refine (CB.out _).mono ?_); rintro e w1 ⟨rfl, hb1⟩; obtain ⟨hc9, hf9⟩ := bcell hb1))
  clear hc9 hf9
  have hblk := Lib.hid (blk_new w (.cells #[.int .i64 0, .slice none 0 0, .int .u32 0, .int .i64 0, .string ⟨#[]⟩, .bool false, .string ⟨#[]⟩] 26))
  have hbel := Lib.hid (below_alloc (Below.refl w.heap.size w) (.cells #[.int .i64 0, .slice none 0 0, .int .u32 0, .int .i64 0, .string ⟨#[]⟩, .bool false, .string ⟨#[]⟩] 26))
  generalize w.alloc (.cells #[.int .i64 0, .slice none 0 0, .int .u32 0, .int .i64 0, .string ⟨#[]⟩, .bool false, .string ⟨#[]⟩] 26) = wa at *
  refine bodyPost_ret (results_ct (p := 2) (u := 3) (ty := 26) (fn := Tryd.f16) ?h0 _ _ w.heap.size 26 #[.int .i64 8, .slice none 0 0, .int .u32 0, .int .i64 0, .string ⟨#[]⟩, .bool false, .string fmtB] (0, 0) _ ?h1 ?h2 Tryd.underlying26 rfl (by kernel_rfl)) ?h3 ?h4
  case h0 => rfl
  case h1 => rfl
  case h3 => rfl
  case h2 =>
    refine put7 (c0 := .int .i64 0) (c1 := .slice none 0 0) (c2 := .int .u32 0) (c3 := .int .i64 0) (c4 := .string ⟨#[]⟩) (c5 := .bool false) (c6 := .string ⟨#[]⟩) ?_
    refine blk_below ?_ hb1
    repeat (with_reducible first | exact hblk.out | apply far1 | apply blk_drewN | apply blk_alloc)
  case h4 =>
    refine ⟨rfl, ?_⟩
    repeat (first | (with_reducible first | exact hbel.out | apply below_alloc | apply pw_below_drewN) | refine below_set ?_ (by omega) | refine below_step ?_ hb1)
set_option maxRecDepth 100000 in
set_option maxHeartbeats 1600000 in
theorem set_big_5 (g cap : Nat) (s1 s2 s3 s4 s5 : ByteArray) (w : World) (hg : g < w.heap.size) (hcap : 5 ≤ cap) (x4 : w.cell? ⟨g, 4, none⟩ = some (.string s4)) (hb4 : amtB s4 = true) (hd : decide (amtV s4 < 0) = false) (x2 : w.cell? ⟨g, 2, none⟩ = some (.string s2)) (x3 : w.cell? ⟨g, 3, none⟩ = some (.string s3)) (z3 : s3.size ≤ 1000000) (hb2 : amtB s2 = true) (hb3 : momB s3 = true) (x1 : w.cell? ⟨g, 1, none⟩ = some (.string s1)) (z1 : s1.size ≤ 1000000) (hb1 : keyP s1 = true) (hd2 : decide (1024 < amtV s4) = true) :
    Calls Tryd.prog 16 #[.slice (some ⟨g, 0, none⟩) 5 cap] w fun e w' => e = .returned (.tuple #[.agg #[.int .i64 8, .slice none 0 0, .int .u32 0, .int .i64 0, .string ⟨#[]⟩, .bool false, .string bigB], .int .i64 (amtV s4)]) ∧ Below w.heap.size w w' := by
  have CQ : Hid (∀ w, Calls Tryd.prog 17 #[.slice (some ⟨g, 0, none⟩) 5 cap, .int .i64 5] w fun e w' => e = .returned (.tuple #[.slice (some ⟨g, 0, none⟩) 5 cap, .bool false]) ∧ w = w') := Lib.hid (fun w => quiet_ne g 5 cap 5 w (by omega) (by omega))
  have C4 := Lib.hid (fun w => amount_c s4 w)
  rw [hb4] at C4
  have C2 := Lib.hid (fun w => amount_c s2 w)
  rw [hb2] at C2
  have C3 := Lib.hid (fun w => moment_c s3 z3 w)
  rw [hb3] at C3
  have C1 := Lib.hid (fun w => key_c s1 z1 w)
  rw [hb1] at C1
  clear hb4 hb2 hb3 hb1
  have CB := Lib.hid (fun w => bad_big w)
  go_enter Tryd.func16, Tryd.ntmps16
  go_wp2_with (first
    | (go_at_call 25; first | ((with_reducible refine (C4.out _).mono ?_); rintro e w' ⟨rfl, ⟨nd, rfl⟩⟩) | ((with_reducible refine (C2.out _).mono ?_); rintro e w' ⟨rfl, ⟨nd, rfl⟩⟩))
    | (go_at_call 18; (with_reducible refine (C3.out _).mono ?_); rintro e w' ⟨rfl, ⟨nd, rfl⟩⟩)
    | (go_at_call 26; (with_reducible refine (C1.out _).mono ?_); rintro e w' ⟨rfl, ⟨nd, rfl⟩⟩)
    | (go_at_call 17; (with_reducible refine (CQ.out _).mono ?_); rintro e w' ⟨rfl, rfl⟩)
    | (go_at_call 15; (with_reducible refine (CB.out _).mono ?_); rintro e w1 ⟨rfl, hb1⟩; obtain ⟨hc9, hf9⟩ := bcell hb1))
  clear hc9 hf9
  have hblk := Lib.hid (blk_new w (.cells #[.int .i64 0, .slice none 0 0, .int .u32 0, .int .i64 0, .string ⟨#[]⟩, .bool false, .string ⟨#[]⟩] 26))
  have hbel := Lib.hid (below_alloc (Below.refl w.heap.size w) (.cells #[.int .i64 0, .slice none 0 0, .int .u32 0, .int .i64 0, .string ⟨#[]⟩, .bool false, .string ⟨#[]⟩] 26))
  generalize w.alloc (.cells #[.int .i64 0, .slice none 0 0, .int .u32 0, .int .i64 0, .string ⟨#[]⟩, .bool false, .string ⟨#[]⟩] 26) = wa at *
  refine bodyPost_ret (results_ct (p := 2) (u := 3) (ty := 26) (fn := Tryd.f16) ?h0 _ _ w.heap.size 26 #[.int .i64 8, .slice none 0 0, .int .u32 0, .int .i64 0, .string ⟨#[]⟩, .bool false, .string bigB] (0, 0) _ ?h1 ?h2 Tryd.underlying26 rfl (by kernel_rfl)) ?h3 ?h4
  case h0 => rfl
  case h1 => rfl
  case h3 => rfl
  case h2 =>
    refine put7 (c0 := .int .i64 0) (c1 := .slice none 0 0) (c2 := .int .u32 0) (c3 := .int .i64 0) (c4 := .string ⟨#[]⟩) (c5 := .bool false) (c6 := .string ⟨#[]⟩) ?_
    refine blk_below ?_ hb1
    repeat (with_reducible first | exact hblk.out | apply far1 | apply blk_drewN | apply blk_alloc)
  case h4 =>
    refine ⟨rfl, ?_⟩
    repeat (first | (with_reducible first | exact hbel.out | apply below_alloc | apply pw_below_drewN) | refine below_set ?_ (by omega) | refine below_step ?_ hb1)
set_option maxRecDepth 100000 in
set_option maxHeartbeats 1600000 in
theorem set_ok_5 (g cap : Nat) (s1 s2 s3 s4 s5 : ByteArray) (w : World) (hg : g < w.heap.size) (hcap : 5 ≤ cap) (x4 : w.cell? ⟨g, 4, none⟩ = some (.string s4)) (hb4 : amtB s4 = true) (hd : decide (amtV s4 < 0) = false) (x2 : w.cell? ⟨g, 2, none⟩ = some (.string s2)) (x3 : w.cell? ⟨g, 3, none⟩ = some (.string s3)) (z3 : s3.size ≤ 1000000) (hb2 : amtB s2 = true) (hb3 : momB s3 = true) (x1 : w.cell? ⟨g, 1, none⟩ = some (.string s1)) (z1 : s1.size ≤ 1000000) (hb1 : keyP s1 = true) (hd2 : decide (1024 < amtV s4) = false) (hf : 0 ≤ amtV s2 ∧ amtV s2 < 4294967296) :
    Calls Tryd.prog 16 #[.slice (some ⟨g, 0, none⟩) 5 cap] w fun e w' => e = .returned (.tuple #[.agg #[.int .i64 2, .slice (some ⟨g, 1, none⟩) 1 (cap - 1), .int .u32 (amtV s2), .int .i64 (momV s3), .string ⟨#[]⟩, .bool false, .string ⟨#[]⟩], .int .i64 (amtV s4)]) ∧ Below w.heap.size w w' := by
  have CQ : Hid (∀ w, Calls Tryd.prog 17 #[.slice (some ⟨g, 0, none⟩) 5 cap, .int .i64 5] w fun e w' => e = .returned (.tuple #[.slice (some ⟨g, 0, none⟩) 5 cap, .bool false]) ∧ w = w') := Lib.hid (fun w => quiet_ne g 5 cap 5 w (by omega) (by omega))
  have C4 := Lib.hid (fun w => amount_c s4 w)
  rw [hb4] at C4
  have C2 := Lib.hid (fun w => amount_c s2 w)
  rw [hb2] at C2
  have C3 := Lib.hid (fun w => moment_c s3 z3 w)
  rw [hb3] at C3
  have C1 := Lib.hid (fun w => key_c s1 z1 w)
  rw [hb1] at C1
  clear hb4 hb2 hb3 hb1
  go_enter Tryd.func16, Tryd.ntmps16
  go_wp2_with (first
    | (go_at_call 25; first | ((with_reducible refine (C4.out _).mono ?_); rintro e w' ⟨rfl, ⟨nd, rfl⟩⟩) | ((with_reducible refine (C2.out _).mono ?_); rintro e w' ⟨rfl, ⟨nd, rfl⟩⟩))
    | (go_at_call 18; (with_reducible refine (C3.out _).mono ?_); rintro e w' ⟨rfl, ⟨nd, rfl⟩⟩)
    | (go_at_call 26; (with_reducible refine (C1.out _).mono ?_); rintro e w' ⟨rfl, ⟨nd, rfl⟩⟩)
    | (go_at_call 17; (with_reducible refine (CQ.out _).mono ?_); rintro e w' ⟨rfl, rfl⟩))
  have hblk := Lib.hid (blk_new w (.cells #[.int .i64 0, .slice none 0 0, .int .u32 0, .int .i64 0, .string ⟨#[]⟩, .bool false, .string ⟨#[]⟩] 26))
  have hbel := Lib.hid (below_alloc (Below.refl w.heap.size w) (.cells #[.int .i64 0, .slice none 0 0, .int .u32 0, .int .i64 0, .string ⟨#[]⟩, .bool false, .string ⟨#[]⟩] 26))
  generalize w.alloc (.cells #[.int .i64 0, .slice none 0 0, .int .u32 0, .int .i64 0, .string ⟨#[]⟩, .bool false, .string ⟨#[]⟩] 26) = wa at *
  refine bodyPost_ret (results_ct (p := 2) (u := 3) (ty := 26) (fn := Tryd.f16) ?h0 _ _ w.heap.size 26 #[.int .i64 2, .slice (some ⟨g, 1, none⟩) 1 (cap - 1), .int .u32 (amtV s2), .int .i64 (momV s3), .string ⟨#[]⟩, .bool false, .string ⟨#[]⟩] (0, 0) _ ?h1 ?h2 Tryd.underlying26 rfl (by kernel_rfl)) ?h3 ?h4
  case h0 => rfl
  case h1 => rfl
  case h3 => rfl
  case h2 =>
    refine put7 (c0 := .int .i64 0) (c1 := .slice none 0 0) (c2 := .int .u32 0) (c3 := .int .i64 0) (c4 := .string ⟨#[]⟩) (c5 := .bool false) (c6 := .string ⟨#[]⟩) ?_
    repeat (with_reducible first | exact hblk.out | apply far1 | apply blk_drewN | apply blk_alloc)
  case h4 =>
    refine ⟨rfl, ?_⟩
    repeat (first | (with_reducible first | exact hbel.out | apply below_alloc | apply pw_below_drewN) | refine below_set ?_ (by omega))
set_option maxRecDepth 100000 in
set_option maxHeartbeats 1600000 in
theorem set_a_yes (g cap : Nat) (s1 s2 s3 s4 s5 : ByteArray) (w : World) (hg : g < w.heap.size) (hcap : 6 ≤ cap) (x4 : w.cell? ⟨g, 4, none⟩ = some (.string s4)) (hb4 : amtB s4 = true) (x5 : w.cell? ⟨g, 5, none⟩ = some (.string s5)) (hs5 : (s5.toList == [110, 111, 114, 101, 112, 108, 121]) = true) (hd : decide (amtV s4 < 0) = false) (x2 : w.cell? ⟨g, 2, none⟩ = some (.string s2)) (x3 : w.cell? ⟨g, 3, none⟩ = some (.string s3)) (z3 : s3.size ≤ 1000000) (hb2 : amtB s2 = false) :
    Calls Tryd.prog 16 #[.slice (some ⟨g, 0, none⟩) 6 cap] w fun e w' => e = .returned (.tuple #[.agg #[.int .i64 8, .slice none 0 0, .int .u32 0, .int .i64 0, .string ⟨#[]⟩, .bool false, .string fmtB], .int .i64 (amtV s4)]) ∧ Below w.heap.size w w' := by
  have CQ : Hid (∀ w : World, w.cell? ⟨g, 5, none⟩ = some (.string s5) → Calls Tryd.prog 17 #[.slice (some ⟨g, 0, none⟩) 6 cap, .int .i64 5] w fun e w' => e = .returned (.tuple #[.slice (some ⟨g, 0, none⟩) 5 cap, .bool true]) ∧ w = w') := Lib.hid (fun w hc => quiet_yes g cap 5 s5 w hc hs5 (by omega) (by omega))
  clear hs5
  have C4 := Lib.hid (fun w => amount_c s4 w)
  rw [hb4] at C4
  have C2 := Lib.hid (fun w => amount_c s2 w)
  rw [hb2] at C2
  have C3 := Lib.hid (fun w => moment_c s3 z3 w)
  clear hb4 hb2
  have CB := Lib.hid (fun w => bad_fmt w)
  go_enter Tryd.func16, Tryd.ntmps16
  go_wp2_with (first
    | (go_at_call 25; first | ((with_reducible refine (C4.out _).mono ?_); rintro e w' ⟨rfl, ⟨nd, rfl⟩⟩) | ((with_reducible refine (C2.out _).mono ?_); rintro e w' ⟨rfl, ⟨nd, rfl⟩⟩))
    | (go_at_call 18; (with_reducible refine (C3.out _).mono ?_); rintro e w' ⟨rfl, ⟨nd, rfl⟩⟩)
    | (go_at_call 17; (with_reducible refine (CQ.out _ (by go_simp)).mono ?_); rintro e w' ⟨rfl, rfl⟩)
    | (go_at_call 15; (with_reducible refine (CB.out _).mono ?_); rintro e w1 ⟨rfl, hb1⟩; obtain ⟨hc9, hf9⟩ := bcell hb1))
  clear hc9 hf9
  have hblk := Lib.hid (blk_new w (.cells #[.int .i64 0, .slice none 0 0, .int .u32 0, .int .i64 0, .string ⟨#[]⟩, .bool false, .string ⟨#[]⟩] 26))
  have hbel := Lib.hid (below_alloc (Below.refl w.heap.size w) (.cells #[.int .i64 0, .slice none 0 0, .int .u32 0, .int .i64 0, .string ⟨#[]⟩, .bool false, .string ⟨#[]⟩] 26))
  generalize w.alloc (.cells #[.int .i64 0, .slice none 0 0, .int .u32 0, .int .i64 0, .string ⟨#[]⟩, .bool false, .string ⟨#[]⟩] 26) = wa at *
  refine bodyPost_ret (results_ct (p := 2) (u := 3) (ty := 26) (fn := Tryd.f16) ?h0 _ _ w.heap.size 26 #[.int .i64 8, .slice none 0 0, .int .u32 0, .int .i64 0, .string ⟨#[]⟩, .bool false, .string fmtB] (0, 0) _ ?h1 ?h2 Tryd.underlying26 rfl (by kernel_rfl)) ?h3 ?h4
  case h0 => rfl
  case h1 => rfl
  case h3 => rfl
  case h2 =>
    refine put7 (c0 := .int .i64 0) (c1 := .slice none 0 0) (c2 := .int .u32 0) (c3 := .int .i64 0) (c4 := .string ⟨#[]⟩) (c5 := .bool false) (c6 := .string ⟨#[]⟩) ?_
    refine blk_below ?_ hb1
    repeat (with_reducible first | exact hblk.out | apply far1 | apply blk_drewN | apply blk_alloc)
  case h4 =>
    refine ⟨rfl, ?_⟩
    repeat (first | (with_reducible first | exact hbel.out | apply below_alloc | apply pw_below_drewN) | refine below_set ?_ (by omega) | refine below_step ?_ hb1)
set_option maxRecDepth 100000 in
set_option maxHeartbeats 1600000 in
theorem set_b_yes (g cap : Nat) (s1 s2 s3 s4 s5 : ByteArray) (w : World) (hg : g < w.heap.size) (hcap : 6 ≤ cap) (x4 : w.cell? ⟨g, 4, none⟩ = some (.string s4)) (hb4 : amtB s4 = true) (x5 : w.cell? ⟨g, 5, none⟩ = some (.string s5)) (hs5 : (s5.toList == [110, 111, 114, 101, 112, 108, 121]) = true) (hd : decide (amtV s4 < 0) = false) (x2 : w.cell? ⟨g, 2, none⟩ = some (.string s2)) (x3 : w.cell? ⟨g, 3, none⟩ = some (.string s3)) (z3 : s3.size ≤ 1000000) (hb2 : amtB s2 = true) (hb3 : momB s3 = false) :
    Calls Tryd.prog 16 #[.slice (some ⟨g, 0, none⟩) 6 cap] w fun e w' => e = .returned (.tuple #[.agg #[.int .i64 8, .slice none 0 0, .int .u32 0, .int .i64 0, .string ⟨#[]⟩, .bool false, .string fmtB], .int .i64 (amtV s4)]) ∧ Below w.heap.size w w' := by
  have CQ : Hid (∀ w : World, w.cell? ⟨g, 5, none⟩ = some (.string s5) → Calls Tryd.prog 17 #[.slice (some ⟨g, 0, none⟩) 6 cap, .int .i64 5] w fun e w' => e = .returned (.tuple #[.slice (some ⟨g, 0, none⟩) 5 cap, .bool true]) ∧ w = w') := Lib.hid (fun w hc => quiet_yes g cap 5 s5 w hc hs5 (by omega) (by omega))
  clear hs5
  have C4 := Lib.hid (fun w => amount_c s4 w)
  rw [hb4] at C4
  have C2 := Lib.hid (fun w => amount_c s2 w)
  rw [hb2] at C2
  have C3 := Lib.hid (fun w => moment_c s3 z3 w)
  rw [hb3] at C3
  clear hb4 hb2 hb3
  have CB := Lib.hid (fun w => bad_fmt w)
  go_enter Tryd.func16, Tryd.ntmps16
  go_wp2_with (first
    | (go_at_call 25; first | ((with_reducible refine (C4.out _).mono ?_); rintro e w' ⟨rfl, ⟨nd, rfl⟩⟩) | ((with_reducible refine (C2.out _).mono ?_); rintro e w' ⟨rfl, ⟨nd, rfl⟩⟩))
    | (go_at_call 18; (with_reducible refine (C3.out _).mono ?_); rintro e w' ⟨rfl, ⟨nd, rfl⟩⟩)
    | (go_at_call 17; (with_reducible refine (CQ.out _ (by go_simp)).mono ?_); rintro e w' ⟨rfl, rfl⟩)
    | (go_at_call 15; (with_reducible refine (CB.out _).mono ?_); rintro e w1 ⟨rfl, hb1⟩; obtain ⟨hc9, hf9⟩ := bcell hb1))
  clear hc9 hf9
  have hblk := Lib.hid (blk_new w (.cells #[.int .i64 0, .slice none 0 0, .int .u32 0, .int .i64 0, .string ⟨#[]⟩, .bool false, .string ⟨#[]⟩] 26))
  have hbel := Lib.hid (below_alloc (Below.refl w.heap.size w) (.cells #[.int .i64 0, .slice none 0 0, .int .u32 0, .int .i64 0, .string ⟨#[]⟩, .bool false, .string ⟨#[]⟩] 26))
  generalize w.alloc (.cells #[.int .i64 0, .slice none 0 0, .int .u32 0, .int .i64 0, .string ⟨#[]⟩, .bool false, .string ⟨#[]⟩] 26) = wa at *
  refine bodyPost_ret (results_ct (p := 2) (u := 3) (ty := 26) (fn := Tryd.f16) ?h0 _ _ w.heap.size 26 #[.int .i64 8, .slice none 0 0, .int .u32 0, .int .i64 0, .string ⟨#[]⟩, .bool false, .string fmtB] (0, 0) _ ?h1 ?h2 Tryd.underlying26 rfl (by kernel_rfl)) ?h3 ?h4
  case h0 => rfl
  case h1 => rfl
  case h3 => rfl
  case h2 =>
    refine put7 (c0 := .int .i64 0) (c1 := .slice none 0 0) (c2 := .int .u32 0) (c3 := .int .i64 0) (c4 := .string ⟨#[]⟩) (c5 := .bool false) (c6 := .string ⟨#[]⟩) ?_
    refine blk_below ?_ hb1
    repeat (with_reducible first | exact hblk.out | apply far1 | apply blk_drewN | apply blk_alloc)
  case h4 =>
    refine ⟨rfl, ?_⟩
    repeat (first | (with_reducible first | exact hbel.out | apply below_alloc | apply pw_below_drewN) | refine below_set ?_ (by omega) | refine below_step ?_ hb1)
set_option maxRecDepth 100000 in
set_option maxHeartbeats 1600000 in
theorem set_k_yes (g cap : Nat) (s1 s2 s3 s4 s5 : ByteArray) (w : World) (hg : g < w.heap.size) (hcap : 6 ≤ cap) (x4 : w.cell? ⟨g, 4, none⟩ = some (.string s4)) (hb4 : amtB s4 = true) (x5 : w.cell? ⟨g, 5, none⟩ = some (.string s5)) (hs5 : (s5.toList == [110, 111, 114, 101, 112, 108, 121]) = true) (hd : decide (amtV s4 < 0) = false) (x2 : w.cell? ⟨g, 2, none⟩ = some (.string s2)) (x3 : w.cell? ⟨g, 3, none⟩ = some (.string s3)) (z3 : s3.size ≤ 1000000) (hb2 : amtB s2 = true) (hb3 : momB s3 = true) (x1 : w.cell? ⟨g, 1, none⟩ = some (.string s1)) (z1 : s1.size ≤ 1000000) (hb1 : keyP s1 = false) :
    Calls Tryd.prog 16 #[.slice (some ⟨g, 0, none⟩) 6 cap] w fun e w' => e = .returned (.tuple #[.agg #[.int .i64 8, .slice none 0 0, .int .u32 0, .int .i64 0, .string ⟨#[]⟩, .bool false, .string fmtB], .int .i64 (amtV s4)]) ∧ Below w.heap.size w w' := by
  have CQ : Hid (∀ w : World, w.cell? ⟨g, 5, none⟩ = some (.string s5) → Calls Tryd.prog 17 #[.slice (some ⟨g, 0, none⟩) 6 cap, .int .i64 5] w fun e w' => e = .returned (.tuple #[.slice (some ⟨g, 0, none⟩) 5 cap, .bool true]) ∧ w = w') := Lib.hid (fun w hc => quiet_yes g cap 5 s5 w hc hs5 (by omega) (by omega))
  clear hs5
  have C4 := Lib.hid (fun w => amount_c s4 w)
  rw [hb4] at C4
  have C2 := Lib.hid (fun w => amount_c s2 w)
  rw [hb2] at C2
  have C3 := Lib.hid (fun w => moment_c s3 z3 w)
  rw [hb3] at C3
  have C1 := Lib.hid (fun w => key_c s1 z1 w)
  rw [hb1] at C1
  clear hb4 hb2 hb3 hb1
  have CB := Lib.hid (fun w => bad_fmt w)
  go_enter Tryd.func16, Tryd.ntmps16
  go_wp2_with (first
    | (go_at_call 25; first | ((with_reducible refine (C4.out _).mono ?_); rintro e w' ⟨rfl, ⟨nd, rfl⟩⟩) | ((with_reducible refine (C2.out _).mono ?_); rintro e w' ⟨rfl, ⟨nd, rfl⟩⟩))
    | (go_at_call 18; (with_reducible refine (C3.out _).mono ?_); rintro e w' ⟨rfl, ⟨nd, rfl⟩⟩)
    | (go_at_call 26; (with_reducible refine (C1.out _).mono ?_); rintro e w' ⟨rfl, ⟨nd, rfl⟩⟩)
    | (go_at_call 17; (with_reducible refine (CQ.out _ (by go_simp)).mono ?_); rintro e w' ⟨rfl, rfl⟩)
    | (go_at_call 15; (with_reducible refine (CB.out _).mono ?_); rintro e w1 ⟨rfl, hb1⟩; obtain ⟨hc9, hf9⟩ := bcell hb1))
  clear hc9 hf9
  have hblk := Lib.hid (blk_new w (.cells #[.int .i64 0, .slice none 0 0, .int .u32 0, .int .i64 0, .string ⟨#[]⟩, .bool false, .string ⟨#[]⟩] 26))
  have hbel := Lib.hid (below_alloc (Below.refl w.heap.size w) (.cells #[.int .i64 0, .slice none 0 0, .int .u32 0, .int .i64 0, .string ⟨#[]⟩, .bool false, .string ⟨#[]⟩] 26))
  generalize w.alloc (.cells #[.int .i64 0, .slice none 0 0, .int .u32 0, .int .i64 0, .string ⟨#[]⟩, .bool false, .string ⟨#[]⟩] 26) = wa at *
  refine bodyPost_ret (results_ct (p := 2) (u := 3) (ty := 26) (fn := Tryd.f16) ?h0 _ _ w.heap.size 26 #[.int .i64 8, .slice none 0 0, .int .u32 0, .int .i64 0, .string ⟨#[]⟩, .bool false, .string fmtB] (0, 0) _ ?h1 ?h2 Tryd.underlying26 rfl (by kernel_rfl)) ?h3 ?h4
  case h0 => rfl
  case h1 => rfl
  case h3 => rfl
  case h2 =>
    refine put7 (c0 := .int .i64 0) (c1 := .slice none 0 0) (c2 := .int .u32 0) (c3 := .int .i64 0) (c4 := .string ⟨#[]⟩) (c5 := .bool false) (c6 := .string ⟨#[]⟩) ?_
    refine blk_below ?_ hb1
    repeat (with_reducible first | exact hblk.out | apply far1 | apply blk_drewN | apply blk_alloc)
  case h4 =>
    refine ⟨rfl, ?_⟩
    repeat (first | (with_reducible first | exact hbel.out | apply below_alloc | apply pw_below_drewN) | refine below_set ?_ (by omega) | refine below_step ?_ hb1)
set_option maxRecDepth 100000 in
set_option maxHeartbeats 1600000 in
theorem set_big_yes (g cap : Nat) (s1 s2 s3 s4 s5 : ByteArray) (w : World) (hg : g < w.heap.size) (hcap : 6 ≤ cap) (x4 : w.cell? ⟨g, 4, none⟩ = some (.string s4)) (hb4 : amtB s4 = true) (x5 : w.cell? ⟨g, 5, none⟩ = some (.string s5)) (hs5 : (s5.toList == [110, 111, 114, 101, 112, 108, 121]) = true) (hd : decide (amtV s4 < 0) = false) (x2 : w.cell? ⟨g, 2, none⟩ = some (.string s2)) (x3 : w.cell? ⟨g, 3, none⟩ = some (.string s3)) (z3 : s3.size ≤ 1000000) (hb2 : amtB s2 = true) (hb3 : momB s3 = true) (x1 : w.cell? ⟨g, 1, none⟩ = some (.string s1)) (z1 : s1.size ≤ 1000000) (hb1 : keyP s1 = true) (hd2 : decide (1024 < amtV s4) = true) :
    Calls Tryd.prog 16 #[.slice (some ⟨g, 0, none⟩) 6 cap] w fun e w' => e = .returned (.tuple #[.agg #[.int .i64 8, .slice none 0 0, .int .u32 0, .int .i64 0, .string ⟨#[]⟩, .bool false, .string bigB], .int .i64 (amtV s4)]) ∧ Below w.heap.size w w' := by
  have CQ : Hid (∀ w : World, w.cell? ⟨g, 5, none⟩ = some (.string s5) → Calls Tryd.prog 17 #[.slice (some ⟨g, 0, none⟩) 6 cap, .int .i64 5] w fun e w' => e = .returned (.tuple #[.slice (some ⟨g, 0, none⟩) 5 cap, .bool true]) ∧ w = w') := Lib.hid (fun w hc => quiet_yes g cap 5 s5 w hc hs5 (by omega) (by omega))
  clear hs5
  have C4 := Lib.hid (fun w => amount_c s4 w)
  rw [hb4] at C4
  have C2 := Lib.hid (fun w => amount_c s2 w)
  rw [hb2] at C2
  have C3 := Lib.hid (fun w => moment_c s3 z3 w)
  rw [hb3] at C3
  have C1 := Lib.hid (fun w => key_c s1 z1 w)
  rw [hb1] at C1
  clear hb4 hb2 hb3 hb1
  have CB := Lib.hid (fun w => bad_big w)
  go_enter Tryd.func16, Tryd.ntmps16
  go_wp2_with (first
    | (go_at_call 25; first | ((with_reducible refine (C4.out _).mono ?_); rintro e w' ⟨rfl, ⟨nd, rfl⟩⟩) | ((with_reducible refine (C2.out _).mono ?_); rintro e w' ⟨rfl, ⟨nd, rfl⟩⟩))
    | (go_at_call 18; (with_reducible refine (C3.out _).mono ?_); rintro e w' ⟨rfl, ⟨nd, rfl⟩⟩)
    | (go_at_call 26; (with_reducible refine (C1.out _).mono ?_); rintro e w' ⟨rfl, ⟨nd, rfl⟩⟩)
    | (go_at_call 17; (with_reducible refine (CQ.out _ (by go_simp)).mono ?_); rintro e w' ⟨rfl, rfl⟩)
    | (go_at_call 15; (with_reducible refine (CB.out _).mono ?_); rintro e w1 ⟨rfl, hb1⟩; obtain ⟨hc9, hf9⟩ := bcell hb1))
  clear hc9 hf9
  have hblk := Lib.hid (blk_new w (.cells #[.int .i64 0, .slice none 0 0, .int .u32 0, .int .i64 0, .string ⟨#[]⟩, .bool false, .string ⟨#[]⟩] 26))
  have hbel := Lib.hid (below_alloc (Below.refl w.heap.size w) (.cells #[.int .i64 0, .slice none 0 0, .int .u32 0, .int .i64 0, .string ⟨#[]⟩, .bool false, .string ⟨#[]⟩] 26))
  generalize w.alloc (.cells #[.int .i64 0, .slice none 0 0, .int .u32 0, .int .i64 0, .string ⟨#[]⟩, .bool false, .string ⟨#[]⟩] 26) = wa at *
  refine bodyPost_ret (results_ct (p := 2) (u := 3) (ty := 26) (fn := Tryd.f16) ?h0 _ _ w.heap.size 26 #[.int .i64 8, .slice none 0 0, .int .u32 0, .int .i64 0, .string ⟨#[]⟩, .bool false, .string bigB] (0, 0) _ ?h1 ?h2 Tryd.underlying26 rfl (by kernel_rfl)) ?h3 ?h4
  case h0 => rfl
  case h1 => rfl
  case h3 => rfl
  case h2 =>
    refine put7 (c0 := .int .i64 0) (c1 := .slice none 0 0) (c2 := .int .u32 0) (c3 := .int .i64 0) (c4 := .string ⟨#[]⟩) (c5 := .bool false) (c6 := .string ⟨#[]⟩) ?_
    refine blk_below ?_ hb1
    repeat (with_reducible first | exact hblk.out | apply far1 | apply blk_drewN | apply blk_alloc)
  case h4 =>
    refine ⟨rfl, ?_⟩
    repeat (first | (with_reducible first | exact hbel.out | apply below_alloc | apply pw_below_drewN) | refine below_set ?_ (by omega) | refine below_step ?_ hb1)
set_option maxRecDepth 100000 in
set_option maxHeartbeats 1600000 in
theorem set_ok_yes (g cap : Nat) (s1 s2 s3 s4 s5 : ByteArray) (w : World) (hg : g < w.heap.size) (hcap : 6 ≤ cap) (x4 : w.cell? ⟨g, 4, none⟩ = some (.string s4)) (hb4 : amtB s4 = true) (x5 : w.cell? ⟨g, 5, none⟩ = some (.string s5)) (hs5 : (s5.toList == [110, 111, 114, 101, 112, 108, 121]) = true) (hd : decide (amtV s4 < 0) = false) (x2 : w.cell? ⟨g, 2, none⟩ = some (.string s2)) (x3 : w.cell? ⟨g, 3, none⟩ = some (.string s3)) (z3 : s3.size ≤ 1000000) (hb2 : amtB s2 = true) (hb3 : momB s3 = true) (x1 : w.cell? ⟨g, 1, none⟩ = some (.string s1)) (z1 : s1.size ≤ 1000000) (hb1 : keyP s1 = true) (hd2 : decide (1024 < amtV s4) = false) (hf : 0 ≤ amtV s2 ∧ amtV s2 < 4294967296) :
    Calls Tryd.prog 16 #[.slice (some ⟨g, 0, none⟩) 6 cap] w fun e w' => e = .returned (.tuple #[.agg #[.int .i64 2, .slice (some ⟨g, 1, none⟩) 1 (cap - 1), .int .u32 (amtV s2), .int .i64 (momV s3), .string ⟨#[]⟩, .bool true, .string ⟨#[]⟩], .int .i64 (amtV s4)]) ∧ Below w.heap.size w w' := by
  have CQ : Hid (∀ w : World, w.cell? ⟨g, 5, none⟩ = some (.string s5) → Calls Tryd.prog 17 #[.slice (some ⟨g, 0, none⟩) 6 cap, .int .i64 5] w fun e w' => e = .returned (.tuple #[.slice (some ⟨g, 0, none⟩) 5 cap, .bool true]) ∧ w = w') := Lib.hid (fun w hc => quiet_yes g cap 5 s5 w hc hs5 (by omega) (by omega))
  clear hs5
  have C4 := Lib.hid (fun w => amount_c s4 w)
  rw [hb4] at C4
  have C2 := Lib.hid (fun w => amount_c s2 w)
  rw [hb2] at C2
  have C3 := Lib.hid (fun w => moment_c s3 z3 w)
  rw [hb3] at C3
  have C1 := Lib.hid (fun w => key_c s1 z1 w)
  rw [hb1] at C1
  clear hb4 hb2 hb3 hb1
  go_enter Tryd.func16, Tryd.ntmps16
  go_wp2_with (first
    | (go_at_call 25; first | ((with_reducible refine (C4.out _).mono ?_); rintro e w' ⟨rfl, ⟨nd, rfl⟩⟩) | ((with_reducible refine (C2.out _).mono ?_); rintro e w' ⟨rfl, ⟨nd, rfl⟩⟩))
    | (go_at_call 18; (with_reducible refine (C3.out _).mono ?_); rintro e w' ⟨rfl, ⟨nd, rfl⟩⟩)
    | (go_at_call 26; (with_reducible refine (C1.out _).mono ?_); rintro e w' ⟨rfl, ⟨nd, rfl⟩⟩)
    | (go_at_call 17; (with_reducible refine (CQ.out _ (by go_simp)).mono ?_); rintro e w' ⟨rfl, rfl⟩))
  have hblk := Lib.hid (blk_new w (.cells #[.int .i64 0, .slice none 0 0, .int .u32 0, .int .i64 0, .string ⟨#[]⟩, .bool false, .string ⟨#[]⟩] 26))
  have hbel := Lib.hid (below_alloc (Below.refl w.heap.size w) (.cells #[.int .i64 0, .slice none 0 0, .int .u32 0, .int .i64 0, .string ⟨#[]⟩, .bool false, .string ⟨#[]⟩] 26))
  generalize w.alloc (.cells #[.int .i64 0, .slice none 0 0, .int .u32 0, .int .i64 0, .string ⟨#[]⟩, .bool false, .string ⟨#[]⟩] 26) = wa at *
  refine bodyPost_ret (results_ct (p := 2) (u := 3) (ty := 26) (fn := Tryd.f16) ?h0 _ _ w.heap.size 26 #[.int .i64 2, .slice (some ⟨g, 1, none⟩) 1 (cap - 1), .int .u32 (amtV s2), .int .i64 (momV s3), .string ⟨#[]⟩, .bool true, .string ⟨#[]⟩] (0, 0) _ ?h1 ?h2 Tryd.underlying26 rfl (by kernel_rfl)) ?h3 ?h4
  case h0 => rfl
  case h1 => rfl
  case h3 => rfl
  case h2 =>
    refine put7 (c0 := .int .i64 0) (c1 := .slice none 0 0) (c2 := .int .u32 0) (c3 := .int .i64 0) (c4 := .string ⟨#[]⟩) (c5 := .bool false) (c6 := .string ⟨#[]⟩) ?_
    repeat (with_reducible first | exact hblk.out | apply far1 | apply blk_drewN | apply blk_alloc)
  case h4 =>
    refine ⟨rfl, ?_⟩
    repeat (first | (with_reducible first | exact hbel.out | apply below_alloc | apply pw_below_drewN) | refine below_set ?_ (by omega))
end Go.Proofs.YtpfggidfcbgaiaaDoor.Cmd

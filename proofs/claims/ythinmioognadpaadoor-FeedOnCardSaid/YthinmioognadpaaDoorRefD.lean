/- Merged of RefParT, RefGet, RefParA (own text; wip/tools/merge.py). -/
import Derived.Test.YthinmioognadpaaDoorRefB
import Derived.Test.YthinmioognadpaaDoorRefC
/- The ways through tattlerref07.Parse (printed by wip/tools/gen_refparse.py, a program of this session). -/
namespace Go.Proofs.YthinmioognadpaaDoor.Cmd
open Go.RowKit Go.Proofs.YthinmioognadpaaDoorW.PrintWords Go.Proofs.YthinmioognadpaaDoorW.PrintLast Go.Proofs.YthinmioognadpaaDoorW.PrintMore Go.Proofs.YthinmioognadpaaDoor.PCmd Go.Proofs.YthinmioognadpaaDoor.Split
set_option linter.unusedVariables false
set_option linter.unusedSimpArgs false
set_option maxRecDepth 100000 in
set_option maxHeartbeats 1600000 in
theorem rpar_touch_1 (s : ByteArray) (hs : s.size ≤ 1000000) (hn : (wordsB s).length = 1) (w : World) (e0 : ((wd (wordsB s) 0).toList == [115, 116, 97, 116, 115]) = false) (e1 : ((wd (wordsB s) 0).toList == [118, 101, 114, 115, 105, 111, 110]) = false) (e2 : ((wd (wordsB s) 0).toList == [113, 117, 105, 116]) = false) (e3 : ((wd (wordsB s) 0).toList == [103, 101, 116]) = false) (e4 : ((wd (wordsB s) 0).toList == [100, 101, 108, 101, 116, 101]) = false) (e5 : ((wd (wordsB s) 0).toList == [116, 111, 117, 99, 104]) = true) :
    Calls Tryd.prog 9 #[.string s] w (TellsC (badA fmtB (-1)) w.heap.size w) := by
  have CW := Lib.hid (fun w => refWords_c s hs 1 hn (by omega) w)
  have HS := Lib.hid (fun (x : ByteArray) (h : x ∈ wordsB s) => Nat.le_trans (words_size h) hs)
  have CF := Lib.hid rbad_fmt
  have HN := Lib.hid hn
  clear hn
  refine Calls.mono (R := fun e w' => e = .returned (.tuple #[.agg #[.int .i64 8, .slice none 0 0, .int .u32 0, .int .i64 0, .string ⟨#[]⟩, .bool false, .string fmtB], .int .i64 (-1)]) ∧ Below w.heap.size w w') ?_ ?_
  · go_enter Tryd.func9, Tryd.ntmps9
    go_wp2_with (first
      | (go_at_call 15; ((with_reducible refine (CW.out _).mono ?_); rintro e w1 ⟨g, cap, rfl, hcap, hg, hlt, hx, hR, hb1⟩; obtain ⟨hc9, hf9⟩ := bcell hb1; have hz9 := hb1.size; (simp at hz9 hg); have hz8 : w.heap.size < w1.heap.size := (by omega); clear hz9; have x0 := wd_cell hx.out 0 (by have := HN.out; omega); clear hx))
      | (go_at_call 16; (with_reducible refine (CF.out _).mono ?_); rintro e w2 ⟨rfl, hb2⟩; obtain ⟨hc7, hf7⟩ := bcell hb2; have hz7 := hb2.size; have hz6 : w.heap.size < w2.heap.size := (by omega); have hz5 : g < w2.heap.size := (by omega)))
    all_goals
      clear hc9 hf9 hc7 hf7
      have hblk := Lib.hid (blk_below (blk_below (blk_new w (.cells #[.int .i64 0, .slice none 0 0, .int .u32 0, .int .i64 0, .string ⟨#[]⟩, .bool false, .string ⟨#[]⟩] 28)) hb1) hb2)
      have hbel := Lib.hid (below_step (below_step (below_alloc (Below.refl w.heap.size w) (.cells #[.int .i64 0, .slice none 0 0, .int .u32 0, .int .i64 0, .string ⟨#[]⟩, .bool false, .string ⟨#[]⟩] 28)) hb1) hb2)
      refine bodyPost_ret (results_ct (p := 2) (u := 3) (ty := 28) (fn := Tryd.f9) ?h0 _ _ w.heap.size 28 #[.int .i64 8, .slice none 0 0, .int .u32 0, .int .i64 0, .string ⟨#[]⟩, .bool false, .string fmtB] (0, 0) _ ?h1 ?h2 Tryd.underlying28 rfl (by kernel_rfl)) ?h3 ?h4
      case h0 => rfl
      case h1 => rfl
      case h3 => rfl
      case h2 =>
        repeat (with_reducible first | apply blk_drewN | apply blk_drew | apply blk_alloc)
        with_reducible refine put7 (c0 := .int .i64 0) (c1 := .slice none 0 0) (c2 := .int .u32 0) (c3 := .int .i64 0) (c4 := .string ⟨#[]⟩) (c5 := .bool false) (c6 := .string ⟨#[]⟩) ?_
        repeat (first | (with_reducible first | exact hblk.out | apply blk_drewN | apply blk_drew | apply blk_alloc) | refine blk_far ?_ (by show w.heap.size ≠ w2.heap.size; omega) _)
      case h4 =>
        refine ⟨rfl, ?_⟩
        repeat (first | (with_reducible first | exact hbel.out | apply below_alloc | apply pw_below_drewN | apply below_drew1) | refine below_set ?_ (by omega))
  · rintro e w' ⟨rfl, hb⟩
    exact ⟨_, rfl, Kd.Q_nil _ _ _ _ _, hb⟩
set_option maxRecDepth 100000 in
set_option maxHeartbeats 1600000 in
theorem rpar_touch_n (s : ByteArray) (hs : s.size ≤ 1000000) (n : Nat) (hn : (wordsB s).length = n) (hn0 : 1 < n) (hn1 : n ≤ 1000001) (h2 : n ≠ 3) (h3 : n ≠ 4) (w : World) (e0 : ((wd (wordsB s) 0).toList == [115, 116, 97, 116, 115]) = false) (e1 : ((wd (wordsB s) 0).toList == [118, 101, 114, 115, 105, 111, 110]) = false) (e2 : ((wd (wordsB s) 0).toList == [113, 117, 105, 116]) = false) (e3 : ((wd (wordsB s) 0).toList == [103, 101, 116]) = false) (e4 : ((wd (wordsB s) 0).toList == [100, 101, 108, 101, 116, 101]) = false) (e5 : ((wd (wordsB s) 0).toList == [116, 111, 117, 99, 104]) = true) (lb : Bool) (hl : ((wd (wordsB s) (n - 1)).toList == [110, 111, 114, 101, 112, 108, 121]) = lb) :
    Calls Tryd.prog 9 #[.string s] w (TellsC (badA fmtB (-1)) w.heap.size w) := by
  have CW := Lib.hid (fun w => refWords_c s hs n hn (by omega) w)
  have HS := Lib.hid (fun (x : ByteArray) (h : x ∈ wordsB s) => Nat.le_trans (words_size h) hs)
  have t0 : ¬ ((n : Int) = 3) := by omega
  have t1 : ¬ ((n : Int) = 4) := by omega
  have HN0 := Lib.hid hn0
  have v0 : IntKind.i64.wrap ((n : Int) - 1) = (n : Int) - 1 := IntWalk.i64_in _ ⟨by omega, by omega⟩
  have v1 : 0 ≤ (n : Int) - 1 := by omega
  have v2 : ((n : Int) - 1).toNat = n - 1 := by omega
  have v3 : decide ((1 : Int) < (n : Int)) = true := decide_eq_true (by omega)
  have v4 : 1 ≤ (n : Int) := by omega
  have v5 : ((n : Int) == 0) = false := beq_eq_false_iff_ne.2 (by omega)
  have v6 : (n : Int) - 1 < (n : Int) := by omega
  have CF := Lib.hid rbad_fmt
  have HN := Lib.hid hn
  clear hn h2 h3
  refine Calls.mono (R := fun e w' => e = .returned (.tuple #[.agg #[.int .i64 8, .slice none 0 0, .int .u32 0, .int .i64 0, .string ⟨#[]⟩, .bool false, .string fmtB], .int .i64 (-1)]) ∧ Below w.heap.size w w') ?_ ?_
  · go_enter Tryd.func9, Tryd.ntmps9
    go_wp2_with (first
      | (go_at_call 15; ((with_reducible refine (CW.out _).mono ?_); rintro e w1 ⟨g, cap, rfl, hcap, hg, hlt, hx, hR, hb1⟩; obtain ⟨hc9, hf9⟩ := bcell hb1; have hz9 := hb1.size; (simp at hz9 hg); have hz8 : w.heap.size < w1.heap.size := (by omega); clear hz9; have x0 := wd_cell hx.out 0 (by have := HN.out; have := HN0.out; omega); have x9 := wd_cell hx.out (n - 1) (by have := HN.out; have := HN0.out; omega); clear hx))
      | (go_at_call 16; (with_reducible refine (CF.out _).mono ?_); rintro e w2 ⟨rfl, hb2⟩; obtain ⟨hc7, hf7⟩ := bcell hb2; have hz7 := hb2.size; have hz6 : w.heap.size < w2.heap.size := (by omega); have hz5 : g < w2.heap.size := (by omega)))
    all_goals
      clear hc9 hf9 hc7 hf7
      have hblk := Lib.hid (blk_below (blk_below (blk_new w (.cells #[.int .i64 0, .slice none 0 0, .int .u32 0, .int .i64 0, .string ⟨#[]⟩, .bool false, .string ⟨#[]⟩] 28)) hb1) hb2)
      have hbel := Lib.hid (below_step (below_step (below_alloc (Below.refl w.heap.size w) (.cells #[.int .i64 0, .slice none 0 0, .int .u32 0, .int .i64 0, .string ⟨#[]⟩, .bool false, .string ⟨#[]⟩] 28)) hb1) hb2)
      refine bodyPost_ret (results_ct (p := 2) (u := 3) (ty := 28) (fn := Tryd.f9) ?h0 _ _ w.heap.size 28 #[.int .i64 8, .slice none 0 0, .int .u32 0, .int .i64 0, .string ⟨#[]⟩, .bool false, .string fmtB] (0, 0) _ ?h1 ?h2 Tryd.underlying28 rfl (by kernel_rfl)) ?h3 ?h4
      case h0 => rfl
      case h1 => rfl
      case h3 => rfl
      case h2 =>
        repeat (with_reducible first | apply blk_drewN | apply blk_drew | apply blk_alloc)
        with_reducible refine put7 (c0 := .int .i64 0) (c1 := .slice none 0 0) (c2 := .int .u32 0) (c3 := .int .i64 0) (c4 := .string ⟨#[]⟩) (c5 := .bool false) (c6 := .string ⟨#[]⟩) ?_
        repeat (first | (with_reducible first | exact hblk.out | apply blk_drewN | apply blk_drew | apply blk_alloc) | refine blk_far ?_ (by show w.heap.size ≠ w2.heap.size; omega) _)
      case h4 =>
        refine ⟨rfl, ?_⟩
        repeat (first | (with_reducible first | exact hbel.out | apply below_alloc | apply pw_below_drewN | apply below_drew1) | refine below_set ?_ (by omega))
  · rintro e w' ⟨rfl, hb⟩
    exact ⟨_, rfl, Kd.Q_nil _ _ _ _ _, hb⟩
set_option maxRecDepth 100000 in
set_option maxHeartbeats 1600000 in
theorem rpar_touch_no_k (s : ByteArray) (hs : s.size ≤ 1000000) (hn : (wordsB s).length = 3) (w : World) (e0 : ((wd (wordsB s) 0).toList == [115, 116, 97, 116, 115]) = false) (e1 : ((wd (wordsB s) 0).toList == [118, 101, 114, 115, 105, 111, 110]) = false) (e2 : ((wd (wordsB s) 0).toList == [113, 117, 105, 116]) = false) (e3 : ((wd (wordsB s) 0).toList == [103, 101, 116]) = false) (e4 : ((wd (wordsB s) 0).toList == [100, 101, 108, 101, 116, 101]) = false) (e5 : ((wd (wordsB s) 0).toList == [116, 111, 117, 99, 104]) = true) (lb : Bool) (hl : ((wd (wordsB s) (2)).toList == [110, 111, 114, 101, 112, 108, 121]) = lb) (hko : keyP (wd (wordsB s) 1) = false) :
    Calls Tryd.prog 9 #[.string s] w (TellsC (badA fmtB (-1)) w.heap.size w) := by
  have CW := Lib.hid (fun w => refWords_c s hs 3 hn (by omega) w)
  have HS := Lib.hid (fun (x : ByteArray) (h : x ∈ wordsB s) => Nat.le_trans (words_size h) hs)
  have CF := Lib.hid rbad_fmt
  have CK := Lib.hid (fun w => rkey_c (wd (wordsB s) 1) w)
  rw [hko] at CK
  clear hko
  have HN := Lib.hid hn
  clear hn
  refine Calls.mono (R := fun e w' => e = .returned (.tuple #[.agg #[.int .i64 8, .slice none 0 0, .int .u32 0, .int .i64 0, .string ⟨#[]⟩, .bool false, .string fmtB], .int .i64 (-1)]) ∧ Below w.heap.size w w') ?_ ?_
  · go_enter Tryd.func9, Tryd.ntmps9
    go_wp2_with (first
      | (go_at_call 15; ((with_reducible refine (CW.out _).mono ?_); rintro e w1 ⟨g, cap, rfl, hcap, hg, hlt, hx, hR, hb1⟩; obtain ⟨hc9, hf9⟩ := bcell hb1; have hz9 := hb1.size; (simp at hz9 hg); have hz8 : w.heap.size < w1.heap.size := (by omega); clear hz9; have x0 := wd_cell hx.out 0 (by have := HN.out; omega); have x1 := wd_cell hx.out 1 (by have := HN.out; omega); have x9 := wd_cell hx.out (2) (by have := HN.out; omega); clear hx))
      | (go_at_call 16; (with_reducible refine (CF.out _).mono ?_); rintro e w2 ⟨rfl, hb2⟩; obtain ⟨hc7, hf7⟩ := bcell hb2; have hz7 := hb2.size; have hz6 : w.heap.size < w2.heap.size := (by omega); have hz5 : g < w2.heap.size := (by omega))
      | (go_at_call 17; (with_reducible refine (CK.out _).mono ?_); rintro e w' ⟨rfl, ⟨nd, rfl⟩⟩))
    all_goals
      clear hc9 hf9 hc7 hf7
      have hblk := Lib.hid (blk_below (blk_below (blk_new w (.cells #[.int .i64 0, .slice none 0 0, .int .u32 0, .int .i64 0, .string ⟨#[]⟩, .bool false, .string ⟨#[]⟩] 28)) hb1) hb2)
      have hbel := Lib.hid (below_step (below_step (below_alloc (Below.refl w.heap.size w) (.cells #[.int .i64 0, .slice none 0 0, .int .u32 0, .int .i64 0, .string ⟨#[]⟩, .bool false, .string ⟨#[]⟩] 28)) hb1) hb2)
      refine bodyPost_ret (results_ct (p := 2) (u := 3) (ty := 28) (fn := Tryd.f9) ?h0 _ _ w.heap.size 28 #[.int .i64 8, .slice none 0 0, .int .u32 0, .int .i64 0, .string ⟨#[]⟩, .bool false, .string fmtB] (0, 0) _ ?h1 ?h2 Tryd.underlying28 rfl (by kernel_rfl)) ?h3 ?h4
      case h0 => rfl
      case h1 => rfl
      case h3 => rfl
      case h2 =>
        repeat (with_reducible first | apply blk_drewN | apply blk_drew | apply blk_alloc)
        with_reducible refine put7 (c0 := .int .i64 0) (c1 := .slice none 0 0) (c2 := .int .u32 0) (c3 := .int .i64 0) (c4 := .string ⟨#[]⟩) (c5 := .bool false) (c6 := .string ⟨#[]⟩) ?_
        repeat (first | (with_reducible first | exact hblk.out | apply blk_drewN | apply blk_drew | apply blk_alloc) | refine blk_far ?_ (by show w.heap.size ≠ w2.heap.size; omega) _)
      case h4 =>
        refine ⟨rfl, ?_⟩
        repeat (first | (with_reducible first | exact hbel.out | apply below_alloc | apply pw_below_drewN | apply below_drew1) | refine below_set ?_ (by omega))
  · rintro e w' ⟨rfl, hb⟩
    exact ⟨_, rfl, Kd.Q_nil _ _ _ _ _, hb⟩
set_option maxRecDepth 100000 in
set_option maxHeartbeats 1600000 in
theorem rpar_touch_no_m (s : ByteArray) (hs : s.size ≤ 1000000) (hn : (wordsB s).length = 3) (w : World) (e0 : ((wd (wordsB s) 0).toList == [115, 116, 97, 116, 115]) = false) (e1 : ((wd (wordsB s) 0).toList == [118, 101, 114, 115, 105, 111, 110]) = false) (e2 : ((wd (wordsB s) 0).toList == [113, 117, 105, 116]) = false) (e3 : ((wd (wordsB s) 0).toList == [103, 101, 116]) = false) (e4 : ((wd (wordsB s) 0).toList == [100, 101, 108, 101, 116, 101]) = false) (e5 : ((wd (wordsB s) 0).toList == [116, 111, 117, 99, 104]) = true) (lb : Bool) (hl : ((wd (wordsB s) (2)).toList == [110, 111, 114, 101, 112, 108, 121]) = lb) (hmo : momB (wd (wordsB s) 2) = false) (hko : keyP (wd (wordsB s) 1) = true) :
    Calls Tryd.prog 9 #[.string s] w (TellsC (badA fmtB (-1)) w.heap.size w) := by
  have CW := Lib.hid (fun w => refWords_c s hs 3 hn (by omega) w)
  have HS := Lib.hid (fun (x : ByteArray) (h : x ∈ wordsB s) => Nat.le_trans (words_size h) hs)
  have CF := Lib.hid rbad_fmt
  have CK := Lib.hid (fun w => rkey_c (wd (wordsB s) 1) w)
  rw [hko] at CK
  clear hko
  have CM := Lib.hid (fun w => rtime_c (wd (wordsB s) 2) (Nat.le_trans (words_size (wd_mem 2 (by omega))) hs) w)
  rw [hmo] at CM
  clear hmo
  have HN := Lib.hid hn
  clear hn
  refine Calls.mono (R := fun e w' => e = .returned (.tuple #[.agg #[.int .i64 8, .slice none 0 0, .int .u32 0, .int .i64 0, .string ⟨#[]⟩, .bool false, .string fmtB], .int .i64 (-1)]) ∧ Below w.heap.size w w') ?_ ?_
  · go_enter Tryd.func9, Tryd.ntmps9
    go_wp2_with (first
      | (go_at_call 15; ((with_reducible refine (CW.out _).mono ?_); rintro e w1 ⟨g, cap, rfl, hcap, hg, hlt, hx, hR, hb1⟩; obtain ⟨hc9, hf9⟩ := bcell hb1; have hz9 := hb1.size; (simp at hz9 hg); have hz8 : w.heap.size < w1.heap.size := (by omega); clear hz9; have x0 := wd_cell hx.out 0 (by have := HN.out; omega); have x1 := wd_cell hx.out 1 (by have := HN.out; omega); have x2 := wd_cell hx.out 2 (by have := HN.out; omega); clear hx))
      | (go_at_call 16; (with_reducible refine (CF.out _).mono ?_); rintro e w2 ⟨rfl, hb2⟩; obtain ⟨hc7, hf7⟩ := bcell hb2; have hz7 := hb2.size; have hz6 : w.heap.size < w2.heap.size := (by omega); have hz5 : g < w2.heap.size := (by omega))
      | (go_at_call 17; (with_reducible refine (CK.out _).mono ?_); rintro e w' ⟨rfl, ⟨nd, rfl⟩⟩)
      | (go_at_call 18; (with_reducible refine (CM.out _).mono ?_); rintro e w' ⟨tm, rfl, htm, ⟨nd, rfl⟩⟩; clear htm))
    all_goals
      clear hc9 hf9 hc7 hf7
      have hblk := Lib.hid (blk_below (blk_below (blk_new w (.cells #[.int .i64 0, .slice none 0 0, .int .u32 0, .int .i64 0, .string ⟨#[]⟩, .bool false, .string ⟨#[]⟩] 28)) hb1) hb2)
      have hbel := Lib.hid (below_step (below_step (below_alloc (Below.refl w.heap.size w) (.cells #[.int .i64 0, .slice none 0 0, .int .u32 0, .int .i64 0, .string ⟨#[]⟩, .bool false, .string ⟨#[]⟩] 28)) hb1) hb2)
      refine bodyPost_ret (results_ct (p := 2) (u := 3) (ty := 28) (fn := Tryd.f9) ?h0 _ _ w.heap.size 28 #[.int .i64 8, .slice none 0 0, .int .u32 0, .int .i64 0, .string ⟨#[]⟩, .bool false, .string fmtB] (0, 0) _ ?h1 ?h2 Tryd.underlying28 rfl (by kernel_rfl)) ?h3 ?h4
      case h0 => rfl
      case h1 => rfl
      case h3 => rfl
      case h2 =>
        repeat (with_reducible first | apply blk_drewN | apply blk_drew | apply blk_alloc)
        with_reducible refine put7 (c0 := .int .i64 0) (c1 := .slice none 0 0) (c2 := .int .u32 0) (c3 := .int .i64 0) (c4 := .string ⟨#[]⟩) (c5 := .bool false) (c6 := .string ⟨#[]⟩) ?_
        repeat (first | (with_reducible first | exact hblk.out | apply blk_drewN | apply blk_drew | apply blk_alloc) | refine blk_far ?_ (by show w.heap.size ≠ w2.heap.size; omega) _)
      case h4 =>
        refine ⟨rfl, ?_⟩
        repeat (first | (with_reducible first | exact hbel.out | apply below_alloc | apply pw_below_drewN | apply below_drew1) | refine below_set ?_ (by omega))
  · rintro e w' ⟨rfl, hb⟩
    exact ⟨_, rfl, Kd.Q_nil _ _ _ _ _, hb⟩
set_option maxRecDepth 100000 in
set_option maxHeartbeats 1600000 in
theorem rpar_touch_no (s : ByteArray) (hs : s.size ≤ 1000000) (hn : (wordsB s).length = 3) (w : World) (e0 : ((wd (wordsB s) 0).toList == [115, 116, 97, 116, 115]) = false) (e1 : ((wd (wordsB s) 0).toList == [118, 101, 114, 115, 105, 111, 110]) = false) (e2 : ((wd (wordsB s) 0).toList == [113, 117, 105, 116]) = false) (e3 : ((wd (wordsB s) 0).toList == [103, 101, 116]) = false) (e4 : ((wd (wordsB s) 0).toList == [100, 101, 108, 101, 116, 101]) = false) (e5 : ((wd (wordsB s) 0).toList == [116, 111, 117, 99, 104]) = true) (lb : Bool) (hl : ((wd (wordsB s) (2)).toList == [110, 111, 114, 101, 112, 108, 121]) = lb) (hmo : momB (wd (wordsB s) 2) = true) (hko : keyP (wd (wordsB s) 1) = true) :
    Calls Tryd.prog 9 #[.string s] w (TellsC (4, [wd (wordsB s) 1], 0, momV (wd (wordsB s) 2), ⟨#[]⟩, false, ⟨#[]⟩, -1) w.heap.size w) := by
  have CW := Lib.hid (fun w => refWords_c s hs 3 hn (by omega) w)
  have HS := Lib.hid (fun (x : ByteArray) (h : x ∈ wordsB s) => Nat.le_trans (words_size h) hs)
  have CF := Lib.hid rbad_fmt
  have CK := Lib.hid (fun w => rkey_c (wd (wordsB s) 1) w)
  rw [hko] at CK
  clear hko
  have CM := Lib.hid (fun w => rtime_c (wd (wordsB s) 2) (Nat.le_trans (words_size (wd_mem 2 (by omega))) hs) w)
  rw [hmo] at CM
  clear hmo
  have HN := Lib.hid hn
  clear hn
  refine Calls.mono (R := fun e w' => ∃ v, e = .returned (.tuple #[.agg #[.int .i64 4, v, .int .u32 0, .int .i64 (momV (wd (wordsB s) 2)), .string ⟨#[]⟩, .bool false, .string ⟨#[]⟩], .int .i64 (-1)]) ∧ Kd.Q Kd.string 9 w' w.heap.size (fun _ => True) v [wd (wordsB s) 1] ∧ Below w.heap.size w w') ?_ ?_
  · go_enter Tryd.func9, Tryd.ntmps9
    go_wp2_with (first
      | (go_at_call 15; ((with_reducible refine (CW.out _).mono ?_); rintro e w1 ⟨g, cap, rfl, hcap, hg, hlt, hx, hR, hb1⟩; obtain ⟨hc9, hf9⟩ := bcell hb1; have hz9 := hb1.size; (simp at hz9 hg); have hz8 : w.heap.size < w1.heap.size := (by omega); clear hz9; have x0 := wd_cell hx.out 0 (by have := HN.out; omega); have x1 := wd_cell hx.out 1 (by have := HN.out; omega); have x2 := wd_cell hx.out 2 (by have := HN.out; omega); clear hx))
      | (go_at_call 16; (with_reducible refine (CF.out _).mono ?_); rintro e w2 ⟨rfl, hb2⟩; obtain ⟨hc7, hf7⟩ := bcell hb2; have hz7 := hb2.size; have hz6 : w.heap.size < w2.heap.size := (by omega); have hz5 : g < w2.heap.size := (by omega))
      | (go_at_call 17; (with_reducible refine (CK.out _).mono ?_); rintro e w' ⟨rfl, ⟨nd, rfl⟩⟩)
      | (go_at_call 18; (with_reducible refine (CM.out _).mono ?_); rintro e w' ⟨tm, rfl, htm, ⟨nd, rfl⟩⟩; obtain rfl := htm (by trivial)))
    all_goals
      clear hc9 hf9 hc7 hf7
      have hblk := Lib.hid (blk_below (blk_below (blk_new w (.cells #[.int .i64 0, .slice none 0 0, .int .u32 0, .int .i64 0, .string ⟨#[]⟩, .bool false, .string ⟨#[]⟩] 28)) hb1) hb2)
      have hbel := Lib.hid (below_step (below_step (below_alloc (Below.refl w.heap.size w) (.cells #[.int .i64 0, .slice none 0 0, .int .u32 0, .int .i64 0, .string ⟨#[]⟩, .bool false, .string ⟨#[]⟩] 28)) hb1) hb2)
      refine bodyPost_ret (results_ct (p := 2) (u := 3) (ty := 28) (fn := Tryd.f9) ?h0 _ _ w.heap.size 28 #[.int .i64 4, (.slice (some ⟨w2.heap.size + 1, 0, none⟩) 1 1), .int .u32 0, .int .i64 (momV (wd (wordsB s) 2)), .string ⟨#[]⟩, .bool false, .string ⟨#[]⟩] (0, 0) _ ?h1 ?h2 Tryd.underlying28 rfl (by kernel_rfl)) ?h3 ?h4
      case h0 => rfl
      case h1 => rfl
      case h3 => rfl
      case h2 =>
        repeat (with_reducible first | apply blk_drewN | apply blk_drew | apply blk_alloc)
        with_reducible refine put7 (c0 := .int .i64 0) (c1 := .slice none 0 0) (c2 := .int .u32 0) (c3 := .int .i64 0) (c4 := .string ⟨#[]⟩) (c5 := .bool false) (c6 := .string ⟨#[]⟩) ?_
        repeat (first | (with_reducible first | exact hblk.out | apply blk_drewN | apply blk_drew | apply blk_alloc) | refine blk_far ?_ (by show w.heap.size ≠ w2.heap.size; omega) _)
      case h4 =>
        refine ⟨_, rfl, ?hq, ?_⟩
        case hq =>
          refine Q_one_at (W := ?W) ?hg ?sm ?hz
          case sm => exact (by repeat (first | (with_reducible first | exact same_refl _ _ | apply same_drewN | apply same_drew | apply same_alloc) | refine same_set ?_ _ (by first | (simp; done) | (simp; omega) | omega)))
          case hg => simp
          case hz => (first | omega | (simp; omega))
        repeat (first | (with_reducible first | exact hbel.out | apply below_alloc | apply pw_below_drewN | apply below_drew1) | refine below_set ?_ (by omega))
  · rintro e w' ⟨v, rfl, hQ, hb⟩
    exact ⟨_, rfl, hQ, hb⟩
set_option maxRecDepth 100000 in
set_option maxHeartbeats 1600000 in
theorem rpar_touch_yes_k (s : ByteArray) (hs : s.size ≤ 1000000) (hn : (wordsB s).length = 4) (w : World) (e0 : ((wd (wordsB s) 0).toList == [115, 116, 97, 116, 115]) = false) (e1 : ((wd (wordsB s) 0).toList == [118, 101, 114, 115, 105, 111, 110]) = false) (e2 : ((wd (wordsB s) 0).toList == [113, 117, 105, 116]) = false) (e3 : ((wd (wordsB s) 0).toList == [103, 101, 116]) = false) (e4 : ((wd (wordsB s) 0).toList == [100, 101, 108, 101, 116, 101]) = false) (e5 : ((wd (wordsB s) 0).toList == [116, 111, 117, 99, 104]) = true) (hl : ((wd (wordsB s) (3)).toList == [110, 111, 114, 101, 112, 108, 121]) = true) (hko : keyP (wd (wordsB s) 1) = false) :
    Calls Tryd.prog 9 #[.string s] w (TellsC (badA fmtB (-1)) w.heap.size w) := by
  have CW := Lib.hid (fun w => refWords_c s hs 4 hn (by omega) w)
  have HS := Lib.hid (fun (x : ByteArray) (h : x ∈ wordsB s) => Nat.le_trans (words_size h) hs)
  have CF := Lib.hid rbad_fmt
  have CK := Lib.hid (fun w => rkey_c (wd (wordsB s) 1) w)
  rw [hko] at CK
  clear hko
  have HN := Lib.hid hn
  clear hn
  refine Calls.mono (R := fun e w' => e = .returned (.tuple #[.agg #[.int .i64 8, .slice none 0 0, .int .u32 0, .int .i64 0, .string ⟨#[]⟩, .bool false, .string fmtB], .int .i64 (-1)]) ∧ Below w.heap.size w w') ?_ ?_
  · go_enter Tryd.func9, Tryd.ntmps9
    go_wp2_with (first
      | (go_at_call 15; ((with_reducible refine (CW.out _).mono ?_); rintro e w1 ⟨g, cap, rfl, hcap, hg, hlt, hx, hR, hb1⟩; obtain ⟨hc9, hf9⟩ := bcell hb1; have hz9 := hb1.size; (simp at hz9 hg); have hz8 : w.heap.size < w1.heap.size := (by omega); clear hz9; have x0 := wd_cell hx.out 0 (by have := HN.out; omega); have x1 := wd_cell hx.out 1 (by have := HN.out; omega); have x9 := wd_cell hx.out (3) (by have := HN.out; omega); clear hx))
      | (go_at_call 16; (with_reducible refine (CF.out _).mono ?_); rintro e w2 ⟨rfl, hb2⟩; obtain ⟨hc7, hf7⟩ := bcell hb2; have hz7 := hb2.size; have hz6 : w.heap.size < w2.heap.size := (by omega); have hz5 : g < w2.heap.size := (by omega))
      | (go_at_call 17; (with_reducible refine (CK.out _).mono ?_); rintro e w' ⟨rfl, ⟨nd, rfl⟩⟩))
    all_goals
      clear hc9 hf9 hc7 hf7
      have hblk := Lib.hid (blk_below (blk_below (blk_new w (.cells #[.int .i64 0, .slice none 0 0, .int .u32 0, .int .i64 0, .string ⟨#[]⟩, .bool false, .string ⟨#[]⟩] 28)) hb1) hb2)
      have hbel := Lib.hid (below_step (below_step (below_alloc (Below.refl w.heap.size w) (.cells #[.int .i64 0, .slice none 0 0, .int .u32 0, .int .i64 0, .string ⟨#[]⟩, .bool false, .string ⟨#[]⟩] 28)) hb1) hb2)
      refine bodyPost_ret (results_ct (p := 2) (u := 3) (ty := 28) (fn := Tryd.f9) ?h0 _ _ w.heap.size 28 #[.int .i64 8, .slice none 0 0, .int .u32 0, .int .i64 0, .string ⟨#[]⟩, .bool false, .string fmtB] (0, 0) _ ?h1 ?h2 Tryd.underlying28 rfl (by kernel_rfl)) ?h3 ?h4
      case h0 => rfl
      case h1 => rfl
      case h3 => rfl
      case h2 =>
        repeat (with_reducible first | apply blk_drewN | apply blk_drew | apply blk_alloc)
        with_reducible refine put7 (c0 := .int .i64 0) (c1 := .slice none 0 0) (c2 := .int .u32 0) (c3 := .int .i64 0) (c4 := .string ⟨#[]⟩) (c5 := .bool false) (c6 := .string ⟨#[]⟩) ?_
        repeat (first | (with_reducible first | exact hblk.out | apply blk_drewN | apply blk_drew | apply blk_alloc) | refine blk_far ?_ (by show w.heap.size ≠ w2.heap.size; omega) _)
      case h4 =>
        refine ⟨rfl, ?_⟩
        repeat (first | (with_reducible first | exact hbel.out | apply below_alloc | apply pw_below_drewN | apply below_drew1) | refine below_set ?_ (by omega))
  · rintro e w' ⟨rfl, hb⟩
    exact ⟨_, rfl, Kd.Q_nil _ _ _ _ _, hb⟩
set_option maxRecDepth 100000 in
set_option maxHeartbeats 1600000 in
theorem rpar_touch_yes_m (s : ByteArray) (hs : s.size ≤ 1000000) (hn : (wordsB s).length = 4) (w : World) (e0 : ((wd (wordsB s) 0).toList == [115, 116, 97, 116, 115]) = false) (e1 : ((wd (wordsB s) 0).toList == [118, 101, 114, 115, 105, 111, 110]) = false) (e2 : ((wd (wordsB s) 0).toList == [113, 117, 105, 116]) = false) (e3 : ((wd (wordsB s) 0).toList == [103, 101, 116]) = false) (e4 : ((wd (wordsB s) 0).toList == [100, 101, 108, 101, 116, 101]) = false) (e5 : ((wd (wordsB s) 0).toList == [116, 111, 117, 99, 104]) = true) (hl : ((wd (wordsB s) (3)).toList == [110, 111, 114, 101, 112, 108, 121]) = true) (hmo : momB (wd (wordsB s) 2) = false) (hko : keyP (wd (wordsB s) 1) = true) :
    Calls Tryd.prog 9 #[.string s] w (TellsC (badA fmtB (-1)) w.heap.size w) := by
  have CW := Lib.hid (fun w => refWords_c s hs 4 hn (by omega) w)
  have HS := Lib.hid (fun (x : ByteArray) (h : x ∈ wordsB s) => Nat.le_trans (words_size h) hs)
  have CF := Lib.hid rbad_fmt
  have CK := Lib.hid (fun w => rkey_c (wd (wordsB s) 1) w)
  rw [hko] at CK
  clear hko
  have CM := Lib.hid (fun w => rtime_c (wd (wordsB s) 2) (Nat.le_trans (words_size (wd_mem 2 (by omega))) hs) w)
  rw [hmo] at CM
  clear hmo
  have HN := Lib.hid hn
  clear hn
  refine Calls.mono (R := fun e w' => e = .returned (.tuple #[.agg #[.int .i64 8, .slice none 0 0, .int .u32 0, .int .i64 0, .string ⟨#[]⟩, .bool false, .string fmtB], .int .i64 (-1)]) ∧ Below w.heap.size w w') ?_ ?_
  · go_enter Tryd.func9, Tryd.ntmps9
    go_wp2_with (first
      | (go_at_call 15; ((with_reducible refine (CW.out _).mono ?_); rintro e w1 ⟨g, cap, rfl, hcap, hg, hlt, hx, hR, hb1⟩; obtain ⟨hc9, hf9⟩ := bcell hb1; have hz9 := hb1.size; (simp at hz9 hg); have hz8 : w.heap.size < w1.heap.size := (by omega); clear hz9; have x0 := wd_cell hx.out 0 (by have := HN.out; omega); have x1 := wd_cell hx.out 1 (by have := HN.out; omega); have x2 := wd_cell hx.out 2 (by have := HN.out; omega); have x9 := wd_cell hx.out (3) (by have := HN.out; omega); clear hx))
      | (go_at_call 16; (with_reducible refine (CF.out _).mono ?_); rintro e w2 ⟨rfl, hb2⟩; obtain ⟨hc7, hf7⟩ := bcell hb2; have hz7 := hb2.size; have hz6 : w.heap.size < w2.heap.size := (by omega); have hz5 : g < w2.heap.size := (by omega))
      | (go_at_call 17; (with_reducible refine (CK.out _).mono ?_); rintro e w' ⟨rfl, ⟨nd, rfl⟩⟩)
      | (go_at_call 18; (with_reducible refine (CM.out _).mono ?_); rintro e w' ⟨tm, rfl, htm, ⟨nd, rfl⟩⟩; clear htm))
    all_goals
      clear hc9 hf9 hc7 hf7
      have hblk := Lib.hid (blk_below (blk_below (blk_new w (.cells #[.int .i64 0, .slice none 0 0, .int .u32 0, .int .i64 0, .string ⟨#[]⟩, .bool false, .string ⟨#[]⟩] 28)) hb1) hb2)
      have hbel := Lib.hid (below_step (below_step (below_alloc (Below.refl w.heap.size w) (.cells #[.int .i64 0, .slice none 0 0, .int .u32 0, .int .i64 0, .string ⟨#[]⟩, .bool false, .string ⟨#[]⟩] 28)) hb1) hb2)
      refine bodyPost_ret (results_ct (p := 2) (u := 3) (ty := 28) (fn := Tryd.f9) ?h0 _ _ w.heap.size 28 #[.int .i64 8, .slice none 0 0, .int .u32 0, .int .i64 0, .string ⟨#[]⟩, .bool false, .string fmtB] (0, 0) _ ?h1 ?h2 Tryd.underlying28 rfl (by kernel_rfl)) ?h3 ?h4
      case h0 => rfl
      case h1 => rfl
      case h3 => rfl
      case h2 =>
        repeat (with_reducible first | apply blk_drewN | apply blk_drew | apply blk_alloc)
        with_reducible refine put7 (c0 := .int .i64 0) (c1 := .slice none 0 0) (c2 := .int .u32 0) (c3 := .int .i64 0) (c4 := .string ⟨#[]⟩) (c5 := .bool false) (c6 := .string ⟨#[]⟩) ?_
        repeat (first | (with_reducible first | exact hblk.out | apply blk_drewN | apply blk_drew | apply blk_alloc) | refine blk_far ?_ (by show w.heap.size ≠ w2.heap.size; omega) _)
      case h4 =>
        refine ⟨rfl, ?_⟩
        repeat (first | (with_reducible first | exact hbel.out | apply below_alloc | apply pw_below_drewN | apply below_drew1) | refine below_set ?_ (by omega))
  · rintro e w' ⟨rfl, hb⟩
    exact ⟨_, rfl, Kd.Q_nil _ _ _ _ _, hb⟩
set_option maxRecDepth 100000 in
set_option maxHeartbeats 1600000 in
theorem rpar_touch_yes (s : ByteArray) (hs : s.size ≤ 1000000) (hn : (wordsB s).length = 4) (w : World) (e0 : ((wd (wordsB s) 0).toList == [115, 116, 97, 116, 115]) = false) (e1 : ((wd (wordsB s) 0).toList == [118, 101, 114, 115, 105, 111, 110]) = false) (e2 : ((wd (wordsB s) 0).toList == [113, 117, 105, 116]) = false) (e3 : ((wd (wordsB s) 0).toList == [103, 101, 116]) = false) (e4 : ((wd (wordsB s) 0).toList == [100, 101, 108, 101, 116, 101]) = false) (e5 : ((wd (wordsB s) 0).toList == [116, 111, 117, 99, 104]) = true) (hl : ((wd (wordsB s) (3)).toList == [110, 111, 114, 101, 112, 108, 121]) = true) (hmo : momB (wd (wordsB s) 2) = true) (hko : keyP (wd (wordsB s) 1) = true) :
    Calls Tryd.prog 9 #[.string s] w (TellsC (4, [wd (wordsB s) 1], 0, momV (wd (wordsB s) 2), ⟨#[]⟩, true, ⟨#[]⟩, -1) w.heap.size w) := by
  have CW := Lib.hid (fun w => refWords_c s hs 4 hn (by omega) w)
  have HS := Lib.hid (fun (x : ByteArray) (h : x ∈ wordsB s) => Nat.le_trans (words_size h) hs)
  have CF := Lib.hid rbad_fmt
  have CK := Lib.hid (fun w => rkey_c (wd (wordsB s) 1) w)
  rw [hko] at CK
  clear hko
  have CM := Lib.hid (fun w => rtime_c (wd (wordsB s) 2) (Nat.le_trans (words_size (wd_mem 2 (by omega))) hs) w)
  rw [hmo] at CM
  clear hmo
  have HN := Lib.hid hn
  clear hn
  refine Calls.mono (R := fun e w' => ∃ v, e = .returned (.tuple #[.agg #[.int .i64 4, v, .int .u32 0, .int .i64 (momV (wd (wordsB s) 2)), .string ⟨#[]⟩, .bool true, .string ⟨#[]⟩], .int .i64 (-1)]) ∧ Kd.Q Kd.string 9 w' w.heap.size (fun _ => True) v [wd (wordsB s) 1] ∧ Below w.heap.size w w') ?_ ?_
  · go_enter Tryd.func9, Tryd.ntmps9
    go_wp2_with (first
      | (go_at_call 15; ((with_reducible refine (CW.out _).mono ?_); rintro e w1 ⟨g, cap, rfl, hcap, hg, hlt, hx, hR, hb1⟩; obtain ⟨hc9, hf9⟩ := bcell hb1; have hz9 := hb1.size; (simp at hz9 hg); have hz8 : w.heap.size < w1.heap.size := (by omega); clear hz9; have x0 := wd_cell hx.out 0 (by have := HN.out; omega); have x1 := wd_cell hx.out 1 (by have := HN.out; omega); have x2 := wd_cell hx.out 2 (by have := HN.out; omega); have x9 := wd_cell hx.out (3) (by have := HN.out; omega); clear hx))
      | (go_at_call 16; (with_reducible refine (CF.out _).mono ?_); rintro e w2 ⟨rfl, hb2⟩; obtain ⟨hc7, hf7⟩ := bcell hb2; have hz7 := hb2.size; have hz6 : w.heap.size < w2.heap.size := (by omega); have hz5 : g < w2.heap.size := (by omega))
      | (go_at_call 17; (with_reducible refine (CK.out _).mono ?_); rintro e w' ⟨rfl, ⟨nd, rfl⟩⟩)
      | (go_at_call 18; (with_reducible refine (CM.out _).mono ?_); rintro e w' ⟨tm, rfl, htm, ⟨nd, rfl⟩⟩; obtain rfl := htm (by trivial)))
    all_goals
      clear hc9 hf9 hc7 hf7
      have hblk := Lib.hid (blk_below (blk_below (blk_new w (.cells #[.int .i64 0, .slice none 0 0, .int .u32 0, .int .i64 0, .string ⟨#[]⟩, .bool false, .string ⟨#[]⟩] 28)) hb1) hb2)
      have hbel := Lib.hid (below_step (below_step (below_alloc (Below.refl w.heap.size w) (.cells #[.int .i64 0, .slice none 0 0, .int .u32 0, .int .i64 0, .string ⟨#[]⟩, .bool false, .string ⟨#[]⟩] 28)) hb1) hb2)
      refine bodyPost_ret (results_ct (p := 2) (u := 3) (ty := 28) (fn := Tryd.f9) ?h0 _ _ w.heap.size 28 #[.int .i64 4, (.slice (some ⟨w2.heap.size + 1, 0, none⟩) 1 1), .int .u32 0, .int .i64 (momV (wd (wordsB s) 2)), .string ⟨#[]⟩, .bool true, .string ⟨#[]⟩] (0, 0) _ ?h1 ?h2 Tryd.underlying28 rfl (by kernel_rfl)) ?h3 ?h4
      case h0 => rfl
      case h1 => rfl
      case h3 => rfl
      case h2 =>
        repeat (with_reducible first | apply blk_drewN | apply blk_drew | apply blk_alloc)
        with_reducible refine put7 (c0 := .int .i64 0) (c1 := .slice none 0 0) (c2 := .int .u32 0) (c3 := .int .i64 0) (c4 := .string ⟨#[]⟩) (c5 := .bool false) (c6 := .string ⟨#[]⟩) ?_
        repeat (first | (with_reducible first | exact hblk.out | apply blk_drewN | apply blk_drew | apply blk_alloc) | refine blk_far ?_ (by show w.heap.size ≠ w2.heap.size; omega) _)
      case h4 =>
        refine ⟨_, rfl, ?hq, ?_⟩
        case hq =>
          refine Q_one_at (W := ?W) ?hg ?sm ?hz
          case sm => exact (by repeat (first | (with_reducible first | exact same_refl _ _ | apply same_drewN | apply same_drew | apply same_alloc) | refine same_set ?_ _ (by first | (simp; done) | (simp; omega) | omega)))
          case hg => simp
          case hz => (first | omega | (simp; omega))
        repeat (first | (with_reducible first | exact hbel.out | apply below_alloc | apply pw_below_drewN | apply below_drew1) | refine below_set ?_ (by omega))
  · rintro e w' ⟨v, rfl, hQ, hb⟩
    exact ⟨_, rfl, hQ, hb⟩
set_option maxRecDepth 100000 in
set_option maxHeartbeats 1600000 in
theorem rpar_touch_x (s : ByteArray) (hs : s.size ≤ 1000000) (hn : (wordsB s).length = 4) (w : World) (e0 : ((wd (wordsB s) 0).toList == [115, 116, 97, 116, 115]) = false) (e1 : ((wd (wordsB s) 0).toList == [118, 101, 114, 115, 105, 111, 110]) = false) (e2 : ((wd (wordsB s) 0).toList == [113, 117, 105, 116]) = false) (e3 : ((wd (wordsB s) 0).toList == [103, 101, 116]) = false) (e4 : ((wd (wordsB s) 0).toList == [100, 101, 108, 101, 116, 101]) = false) (e5 : ((wd (wordsB s) 0).toList == [116, 111, 117, 99, 104]) = true) (hl : ((wd (wordsB s) (3)).toList == [110, 111, 114, 101, 112, 108, 121]) = false) :
    Calls Tryd.prog 9 #[.string s] w (TellsC (badA fmtB (-1)) w.heap.size w) := by
  have CW := Lib.hid (fun w => refWords_c s hs 4 hn (by omega) w)
  have HS := Lib.hid (fun (x : ByteArray) (h : x ∈ wordsB s) => Nat.le_trans (words_size h) hs)
  have CF := Lib.hid rbad_fmt
  have HN := Lib.hid hn
  clear hn
  refine Calls.mono (R := fun e w' => e = .returned (.tuple #[.agg #[.int .i64 8, .slice none 0 0, .int .u32 0, .int .i64 0, .string ⟨#[]⟩, .bool false, .string fmtB], .int .i64 (-1)]) ∧ Below w.heap.size w w') ?_ ?_
  · go_enter Tryd.func9, Tryd.ntmps9
    go_wp2_with (first
      | (go_at_call 15; ((with_reducible refine (CW.out _).mono ?_); rintro e w1 ⟨g, cap, rfl, hcap, hg, hlt, hx, hR, hb1⟩; obtain ⟨hc9, hf9⟩ := bcell hb1; have hz9 := hb1.size; (simp at hz9 hg); have hz8 : w.heap.size < w1.heap.size := (by omega); clear hz9; have x0 := wd_cell hx.out 0 (by have := HN.out; omega); have x9 := wd_cell hx.out (3) (by have := HN.out; omega); clear hx))
      | (go_at_call 16; (with_reducible refine (CF.out _).mono ?_); rintro e w2 ⟨rfl, hb2⟩; obtain ⟨hc7, hf7⟩ := bcell hb2; have hz7 := hb2.size; have hz6 : w.heap.size < w2.heap.size := (by omega); have hz5 : g < w2.heap.size := (by omega)))
    all_goals
      clear hc9 hf9 hc7 hf7
      have hblk := Lib.hid (blk_below (blk_below (blk_new w (.cells #[.int .i64 0, .slice none 0 0, .int .u32 0, .int .i64 0, .string ⟨#[]⟩, .bool false, .string ⟨#[]⟩] 28)) hb1) hb2)
      have hbel := Lib.hid (below_step (below_step (below_alloc (Below.refl w.heap.size w) (.cells #[.int .i64 0, .slice none 0 0, .int .u32 0, .int .i64 0, .string ⟨#[]⟩, .bool false, .string ⟨#[]⟩] 28)) hb1) hb2)
      refine bodyPost_ret (results_ct (p := 2) (u := 3) (ty := 28) (fn := Tryd.f9) ?h0 _ _ w.heap.size 28 #[.int .i64 8, .slice none 0 0, .int .u32 0, .int .i64 0, .string ⟨#[]⟩, .bool false, .string fmtB] (0, 0) _ ?h1 ?h2 Tryd.underlying28 rfl (by kernel_rfl)) ?h3 ?h4
      case h0 => rfl
      case h1 => rfl
      case h3 => rfl
      case h2 =>
        repeat (with_reducible first | apply blk_drewN | apply blk_drew | apply blk_alloc)
        with_reducible refine put7 (c0 := .int .i64 0) (c1 := .slice none 0 0) (c2 := .int .u32 0) (c3 := .int .i64 0) (c4 := .string ⟨#[]⟩) (c5 := .bool false) (c6 := .string ⟨#[]⟩) ?_
        repeat (first | (with_reducible first | exact hblk.out | apply blk_drewN | apply blk_drew | apply blk_alloc) | refine blk_far ?_ (by show w.heap.size ≠ w2.heap.size; omega) _)
      case h4 =>
        refine ⟨rfl, ?_⟩
        repeat (first | (with_reducible first | exact hbel.out | apply below_alloc | apply pw_below_drewN | apply below_drew1) | refine below_set ?_ (by omega))
  · rintro e w' ⟨rfl, hb⟩
    exact ⟨_, rfl, Kd.Q_nil _ _ _ _ _, hb⟩
end Go.Proofs.YthinmioognadpaaDoor.Cmd

/- The reference's Parse at a get of 2 to 17 words (printed by wip/tools/gen_refget.py; the loop's steps after those that the kit's printer wrote for it). -/
namespace Go.Proofs.YthinmioognadpaaDoor.Cmd
open Go.RowKit Go.Proofs.YthinmioognadpaaDoorW.PrintWords Go.Proofs.YthinmioognadpaaDoorW.PrintLast Go.Proofs.YthinmioognadpaaDoorW.PrintMore Go.Proofs.YthinmioognadpaaDoor.PCmd Go.Proofs.YthinmioognadpaaDoor.Split
set_option linter.unusedVariables false
set_option linter.unusedSimpArgs false
def refGetT : Bool × List (List Nat × List Nat) := (true, [([], []), ([0], [0]), ([], []), ([], []), ([2, 3], [2, 3]), ([4], [4]), ([5], [5]), ([1, 6], [1, 6]), ([0, 1, 2, 3, 4, 5, 6, 7], []), ([8, 7, 7, 0, 1, 2, 3, 4, 5, 6, 7], [7, 8])])
def refGetB : List Nat := [0, 1, 0, 0, 12, 28, 60, 127, 255, 511]
theorem refGet_tab : rtab .any (opsOf Tryd.f9 27) = refGetT := by kernel_rfl
theorem refGet_bits : waitsOk refGetT.2 refGetB = true := by kernel_rfl
theorem keys_snoc (l : List ByteArray) (i : Nat) (h1 : 1 ≤ i) (h : i < l.length) : (l.take (i + 1)).drop 1 = (l.take i).drop 1 ++ [wd l i] := by
  have e : wd l i = l[i] := by unfold wd; rw [List.getD_eq_getElem?_getD, List.getElem?_eq_getElem h]; rfl
  rw [List.take_succ_eq_append_getElem h, List.drop_append_of_le_length (by rw [List.length_take]; omega), e]
theorem keys_all_false (l : List ByteArray) (i : Nat) (h1 : 1 ≤ i) (h : i < l.length) (hk : keyP (wd l i) = false) : (l.drop 1).all keyP = false := by
  rw [Bool.eq_false_iff]
  intro ha
  have hm : wd l i ∈ l.drop 1 := by
    have e : wd l i = l[i] := by unfold wd; rw [List.getD_eq_getElem?_getD, List.getElem?_eq_getElem h]; rfl
    rw [e, List.mem_iff_getElem]
    refine ⟨i - 1, by rw [List.length_drop]; omega, ?_⟩
    rw [List.getElem_drop]
    congr 1
    omega
  have := List.all_eq_true.1 ha _ hm
  rw [hk] at this
  cases this
theorem blk_at {W : World} {g : Nat} {o : Obj} (hg : W.heap.size = g) : (W.alloc o).heap[g]? = some o := by
  subst hg; exact blk_new W o
def getP (l : List ByteArray) : Ans := if (l.drop 1).all keyP = true then (1, l.drop 1, 0, 0, ⟨#[]⟩, false, ⟨#[]⟩, -1) else badA fmtB (-1)
set_option maxRecDepth 100000 in
set_option maxHeartbeats 3000000 in
theorem rpar_get (s : ByteArray) (hs : s.size ≤ 1000000) (n : Nat) (hn : (wordsB s).length = n) (hn0 : 1 < n) (hn1 : n ≤ 1000001) (h17 : n ≤ 17) (w : World) (e0 : ((wd (wordsB s) 0).toList == [115, 116, 97, 116, 115]) = false) (e1 : ((wd (wordsB s) 0).toList == [118, 101, 114, 115, 105, 111, 110]) = false) (e2 : ((wd (wordsB s) 0).toList == [113, 117, 105, 116]) = false) (e3 : ((wd (wordsB s) 0).toList == [103, 101, 116]) = true) (lb : Bool) (hl : ((wd (wordsB s) (n - 1)).toList == [110, 111, 114, 101, 112, 108, 121]) = lb) :
    Calls Tryd.prog 9 #[.string s] w (TellsC (getP (wordsB s)) w.heap.size w) := by
  have CW := Lib.hid (fun w => refWords_c s hs n hn (by omega) w)
  have HN0 := Lib.hid hn0
  have H17 := Lib.hid h17
  have v0 : IntKind.i64.wrap ((n : Int) - 1) = (n : Int) - 1 := IntWalk.i64_in _ ⟨by omega, by omega⟩
  have v1 : 0 ≤ (n : Int) - 1 := by omega
  have v2 : ((n : Int) - 1).toNat = n - 1 := by omega
  have v3 : decide ((1 : Int) < (n : Int)) = true := decide_eq_true (by omega)
  have v4 : 1 ≤ (n : Int) := by omega
  have v5 : ((n : Int) == 0) = false := beq_eq_false_iff_ne.2 (by omega)
  have v6 : (n : Int) - 1 < (n : Int) := by omega
  have v7 : decide ((17 : Int) < (n : Int)) = false := decide_eq_false (by omega)
  have v8 : decide ((n : Int) < 2) = false := decide_eq_false (by omega)
  have CF := Lib.hid rbad_fmt
  have HN := Lib.hid hn
  clear hn h17 hn1
  go_enter Tryd.func9, Tryd.ntmps9
  go_wp2_with (first
    | (go_at_call 15; ((with_reducible refine (CW.out _).mono ?_); rintro e w1 ⟨g, cap, rfl, hcap, hg, hlt, hx, hR, hb1⟩; obtain ⟨hc9, hf9⟩ := bcell hb1; have hz9 := hb1.size; (simp at hz9 hg); have hz8 : w.heap.size < w1.heap.size := (by omega); clear hz9; have x0 := wd_cell hx.out 0 (by have := HN.out; have := HN0.out; omega); have x9 := wd_cell hx.out (n - 1) (by have := HN.out; have := HN0.out; omega); clear hx))
    | (go_at_call 16; (with_reducible refine (CF.out _).mono ?_); rintro e w2 ⟨rfl, hb2⟩; obtain ⟨hc7, hf7⟩ := bcell hb2; have hz7 := hb2.size; have hz6 : w.heap.size < w2.heap.size := (by omega); have hz5 : g < w2.heap.size := (by omega)))
  clear hc9 hf9 hc7 hf7
  have ng : w.heap.size ≠ w2.heap.size := by omega
  have ng1 : w.heap.size ≠ w2.heap.size + 1 := by omega
  have ng2 : w2.heap.size ≠ w2.heap.size + 1 := by omega
  have hblk := Lib.hid (blk_below (blk_below (blk_new w (.cells #[.int .i64 0, .slice none 0 0, .int .u32 0, .int .i64 0, .string ⟨#[]⟩, .bool false, .string ⟨#[]⟩] 28)) hb1) hb2)
  have hbel := Lib.hid (below_step hb1 hb2)
  have hwb : Hid (Below w1.heap.size w1 w2) := Lib.hid hb2
  have hG : Hid ((w.alloc (.cells #[.int .i64 0, .slice none 0 0, .int .u32 0, .int .i64 0, .string ⟨#[]⟩, .bool false, .string ⟨#[]⟩] 28)).heap.size ≤ g) := Lib.hid (by simp; omega)
  have hZ : Hid ((w.alloc (.cells #[.int .i64 0, .slice none 0 0, .int .u32 0, .int .i64 0, .string ⟨#[]⟩, .bool false, .string ⟨#[]⟩] 28)).heap.size ≤ w2.heap.size) := Lib.hid (by simp; omega)
  go_loopg [9] (n - 1) (fun kq v9 w' => ∃ (x : Int) (i : Nat) (u : Value) (ks : List ByteArray), v9 = .int .i64 x ∧ Hid (x = (i : Int) ∧ kq + i = n ∧ 1 ≤ i ∧ ks = (((wordsB s).take i).drop 1)) ∧ Hid (ks.all keyP = true) ∧ Hid (Kd.R Kd.string 9 w' (w.alloc (.cells #[.int .i64 0, .slice none 0 0, .int .u32 0, .int .i64 0, .string ⟨#[]⟩, .bool false, .string ⟨#[]⟩] 28)).heap.size (fun k_ => True ∧ some k_ ≠ (u : Value).ownBlock) (.slice (some ⟨g, 0, none⟩) n cap) (wordsB s)) ∧ Hid (Kd.R Kd.string 9 w' (w.alloc (.cells #[.int .i64 0, .slice none 0 0, .int .u32 0, .int .i64 0, .string ⟨#[]⟩, .bool false, .string ⟨#[]⟩] 28)).heap.size (fun k_ => some k_ ≠ ((.slice (some ⟨g, 0, none⟩) n cap) : Value).ownBlock) u ks) ∧ Hid (w'.heap[w.heap.size]? = some (.cells #[.int .i64 0, .slice none 0 0, .int .u32 0, .int .i64 0, .string ⟨#[]⟩, .bool false, .string ⟨#[]⟩] 28 (0, 0))) ∧ Hid (w'.heap[w2.heap.size]? = some (.cells #[.int .i64 8, .slice none 0 0, .int .u32 0, .int .i64 0, .string ⟨#[]⟩, .bool false, .string fmtB] 28 (0, 0))) ∧ Hid (w'.heap[w2.heap.size + 1]? = some (.cells #[.int .i64 1, u, .int .u32 0, .int .i64 0, .string ⟨#[]⟩, .bool false, .string ⟨#[]⟩] 28 (0, 0))) ∧ Hid (Below (w.alloc (.cells #[.int .i64 0, .slice none 0 0, .int .u32 0, .int .i64 0, .string ⟨#[]⟩, .bool false, .string ⟨#[]⟩] 28)).heap.size (w.alloc (.cells #[.int .i64 0, .slice none 0 0, .int .u32 0, .int .i64 0, .string ⟨#[]⟩, .bool false, .string ⟨#[]⟩] 28)) w'))
  case atStart =>
    have e1 : ((wordsB s).take 1).drop 1 = [] := by rw [List.drop_eq_nil_of_le]; rw [List.length_take]; omega
    refine ⟨1, 1, .slice none 0 0, [], (by first | rfl | (simp; done)), Lib.hid ⟨rfl, by have := HN0.out; omega, Nat.le_refl _, e1.symm⟩, Lib.hid ?a0, Lib.hid ?a1, Lib.hid ?a2, Lib.hid ?a3, Lib.hid ?a4, Lib.hid ?a5, Lib.hid ?a6⟩
    case a0 => rfl
    case a1 => exact Kd.R_mono (Kd.R_below hR.out (by repeat (first | (with_reducible first | exact hwb.out | apply below_alloc))) ) (fun _ hk => ⟨trivial, by simp [Value.ownBlock]⟩)
    case a2 => exact Kd.R_nil _ _ _ _ _
    case a3 => exact blk_alloc (blk_alloc hblk.out _) _
    case a4 => exact blk_alloc (blk_at rfl) _
    case a5 => exact blk_at (by simp)
    case a6 => repeat (first | (with_reducible first | exact hbel.out | apply below_alloc))
  case round =>
    obtain ⟨x, i, u, ks, rfl, HI, HA, HO, HU, B0, B1, B2, HB⟩ := hrel
    obtain ⟨hx1, hx2, hx3, hx4⟩ := HI.out
    have hbf := Lib.hid (below_step (below_alloc (Below.refl w.heap.size w) (.cells #[.int .i64 0, .slice none 0 0, .int .u32 0, .int .i64 0, .string ⟨#[]⟩, .bool false, .string ⟨#[]⟩] 28)) HB.out)
    clear x0 x9 v1 v2 v3 v4 v5 v6 v7 v8 v0
    by_cases c : x < (n : Int)
    rotate_left
    · have cb : decide (x < (n : Int)) = false := decide_eq_false c
      have ei : i = n := by omega
      have hk : ks = (wordsB s).drop 1 := by rw [hx4, ei, List.take_of_length_le (by rw [HN.out]; omega)]
      have hall : getP (wordsB s) = (1, ks, 0, 0, ⟨#[]⟩, false, ⟨#[]⟩, -1) := by
        have h1 := HA.out
        rw [hk] at h1
        unfold getP
        rw [if_pos h1, hk]
      clear hk c ei hx1 hx2 hx3 hx4 HI HA
      obtain ⟨A9, c9, eu⟩ := Kd.R_slice HU.out
      subst eu
      have hc2_0 : wr.cell? ⟨w2.heap.size + 1, 0, none⟩ = some (.int .i64 1) := (blk_cell B2.out 0).trans rfl
      have hf2_0 := blk_frozen B2.out 0
      have hc2_1 : wr.cell? ⟨w2.heap.size + 1, 1, none⟩ = some (.slice A9 ks.length c9) := (blk_cell B2.out 1).trans rfl
      have hf2_1 := blk_frozen B2.out 1
      have hc2_2 : wr.cell? ⟨w2.heap.size + 1, 2, none⟩ = some (.int .u32 0) := (blk_cell B2.out 2).trans rfl
      have hf2_2 := blk_frozen B2.out 2
      have hc2_3 : wr.cell? ⟨w2.heap.size + 1, 3, none⟩ = some (.int .i64 0) := (blk_cell B2.out 3).trans rfl
      have hf2_3 := blk_frozen B2.out 3
      have hc2_4 : wr.cell? ⟨w2.heap.size + 1, 4, none⟩ = some (.string ⟨#[]⟩) := (blk_cell B2.out 4).trans rfl
      have hf2_4 := blk_frozen B2.out 4
      have hc2_5 : wr.cell? ⟨w2.heap.size + 1, 5, none⟩ = some (.bool false) := (blk_cell B2.out 5).trans rfl
      have hf2_5 := blk_frozen B2.out 5
      have hc2_6 : wr.cell? ⟨w2.heap.size + 1, 6, none⟩ = some (.string ⟨#[]⟩) := (blk_cell B2.out 6).trans rfl
      have hf2_6 := blk_frozen B2.out 6
      have hc0_0 : wr.cell? ⟨w.heap.size, 0, none⟩ = some (.int .i64 0) := (blk_cell B0.out 0).trans rfl
      have hf0_0 := blk_frozen B0.out 0
      have hc0_1 : wr.cell? ⟨w.heap.size, 1, none⟩ = some (.slice none 0 0) := (blk_cell B0.out 1).trans rfl
      have hf0_1 := blk_frozen B0.out 1
      have hc0_2 : wr.cell? ⟨w.heap.size, 2, none⟩ = some (.int .u32 0) := (blk_cell B0.out 2).trans rfl
      have hf0_2 := blk_frozen B0.out 2
      have hc0_3 : wr.cell? ⟨w.heap.size, 3, none⟩ = some (.int .i64 0) := (blk_cell B0.out 3).trans rfl
      have hf0_3 := blk_frozen B0.out 3
      have hc0_4 : wr.cell? ⟨w.heap.size, 4, none⟩ = some (.string ⟨#[]⟩) := (blk_cell B0.out 4).trans rfl
      have hf0_4 := blk_frozen B0.out 4
      have hc0_5 : wr.cell? ⟨w.heap.size, 5, none⟩ = some (.bool false) := (blk_cell B0.out 5).trans rfl
      have hf0_5 := blk_frozen B0.out 5
      have hc0_6 : wr.cell? ⟨w.heap.size, 6, none⟩ = some (.string ⟨#[]⟩) := (blk_cell B0.out 6).trans rfl
      have hf0_6 := blk_frozen B0.out 6
      go_wp2
      refine bodyPost_ret (results_ct (p := 2) (u := 3) (ty := 28) (fn := Tryd.f9) ?h0 _ _ w.heap.size 28 #[.int .i64 1, .slice A9 ks.length c9, .int .u32 0, .int .i64 0, .string ⟨#[]⟩, .bool false, .string ⟨#[]⟩] (0, 0) _ ?h1 ?h2 Tryd.underlying28 rfl (by kernel_rfl)) ?h3 ?h4
      case h0 => rfl
      case h1 => rfl
      case h3 => rfl
      case h2 =>
        repeat (with_reducible first | apply blk_drewN | apply blk_drew | apply blk_alloc)
        with_reducible refine put7 (c0 := .int .i64 0) (c1 := .slice none 0 0) (c2 := .int .u32 0) (c3 := .int .i64 0) (c4 := .string ⟨#[]⟩) (c5 := .bool false) (c6 := .string ⟨#[]⟩) ?_
        repeat (with_reducible first | exact B0.out | apply blk_drewN | apply blk_drew | apply blk_alloc)
      case h4 =>
        rw [hall]
        refine ⟨_, rfl, Q_same (Kd.Q_of_R (Kd.R_mono HU.out (fun _ _ => trivial))) (by repeat (first | (with_reducible first | exact same_refl _ _ | apply same_drewN | apply same_drew | apply same_alloc) | refine same_set ?_ _ (by first | (simp; done) | (simp; omega) | omega))) (by simp), ?_⟩
        repeat (first | (with_reducible first | exact hbf.out | apply below_alloc | apply pw_below_drewN | apply below_drew1) | refine below_set ?_ (by omega))
    have cb : decide (x < (n : Int)) = true := decide_eq_true c
    have cn : (x < (n : Int)) = True := eq_true c
    have cp : (0 ≤ x) = True := eq_true (by omega)
    have hil : i < (wordsB s).length := by rw [HN.out]; omega
    have hcell : ∀ {W : World}, Kd.R Kd.string 9 W (w.alloc (.cells #[.int .i64 0, .slice none 0 0, .int .u32 0, .int .i64 0, .string ⟨#[]⟩, .bool false, .string ⟨#[]⟩] 28)).heap.size (fun k_ => True ∧ some k_ ≠ (u : Value).ownBlock) (.slice (some ⟨g, 0, none⟩) n cap) (wordsB s) → W.cell? ⟨g, x.toNat, none⟩ = some (.string (wd (wordsB s) i)) := by
      intro W h
      obtain ⟨ad, e, h⟩ := Kd.at_string (Kd.R_reads' h).2.2 x (by omega) (by rw [HN.out]; exact c)
      injection e with e
      subst e
      have e2 : rdOf ByteArray.empty (wordsB s) x = wd (wordsB s) i := by rw [hx1]; exact rd_wd _ _
      rw [e2] at h
      have h0 : ¬ x ≤ 0 := by omega
      simpa [Go.Addr.add, h0] using h
    have vw : IntKind.i64.wrap (x + 1) = x + 1 := IntWalk.i64_in _ ⟨by omega, by have := H17.out; omega⟩
    have hw := hcell HO.out
    have CK := Lib.hid (fun w => rkey_c (wd (wordsB s) i) w)
    cases hko : keyP (wd (wordsB s) i) with
    | false =>
      rw [hko] at CK
      have hall : getP (wordsB s) = badA fmtB (-1) := by
        unfold getP
        rw [keys_all_false _ i hx3 hil hko, if_neg (by simp)]
      have hc1_0 : wr.cell? ⟨w2.heap.size, 0, none⟩ = some (.int .i64 8) := (blk_cell B1.out 0).trans rfl
      have hf1_0 := blk_frozen B1.out 0
      have hc1_1 : wr.cell? ⟨w2.heap.size, 1, none⟩ = some (.slice none 0 0) := (blk_cell B1.out 1).trans rfl
      have hf1_1 := blk_frozen B1.out 1
      have hc1_2 : wr.cell? ⟨w2.heap.size, 2, none⟩ = some (.int .u32 0) := (blk_cell B1.out 2).trans rfl
      have hf1_2 := blk_frozen B1.out 2
      have hc1_3 : wr.cell? ⟨w2.heap.size, 3, none⟩ = some (.int .i64 0) := (blk_cell B1.out 3).trans rfl
      have hf1_3 := blk_frozen B1.out 3
      have hc1_4 : wr.cell? ⟨w2.heap.size, 4, none⟩ = some (.string ⟨#[]⟩) := (blk_cell B1.out 4).trans rfl
      have hf1_4 := blk_frozen B1.out 4
      have hc1_5 : wr.cell? ⟨w2.heap.size, 5, none⟩ = some (.bool false) := (blk_cell B1.out 5).trans rfl
      have hf1_5 := blk_frozen B1.out 5
      have hc1_6 : wr.cell? ⟨w2.heap.size, 6, none⟩ = some (.string fmtB) := (blk_cell B1.out 6).trans rfl
      have hf1_6 := blk_frozen B1.out 6
      have hc0_0 : wr.cell? ⟨w.heap.size, 0, none⟩ = some (.int .i64 0) := (blk_cell B0.out 0).trans rfl
      have hf0_0 := blk_frozen B0.out 0
      have hc0_1 : wr.cell? ⟨w.heap.size, 1, none⟩ = some (.slice none 0 0) := (blk_cell B0.out 1).trans rfl
      have hf0_1 := blk_frozen B0.out 1
      have hc0_2 : wr.cell? ⟨w.heap.size, 2, none⟩ = some (.int .u32 0) := (blk_cell B0.out 2).trans rfl
      have hf0_2 := blk_frozen B0.out 2
      have hc0_3 : wr.cell? ⟨w.heap.size, 3, none⟩ = some (.int .i64 0) := (blk_cell B0.out 3).trans rfl
      have hf0_3 := blk_frozen B0.out 3
      have hc0_4 : wr.cell? ⟨w.heap.size, 4, none⟩ = some (.string ⟨#[]⟩) := (blk_cell B0.out 4).trans rfl
      have hf0_4 := blk_frozen B0.out 4
      have hc0_5 : wr.cell? ⟨w.heap.size, 5, none⟩ = some (.bool false) := (blk_cell B0.out 5).trans rfl
      have hf0_5 := blk_frozen B0.out 5
      have hc0_6 : wr.cell? ⟨w.heap.size, 6, none⟩ = some (.string ⟨#[]⟩) := (blk_cell B0.out 6).trans rfl
      have hf0_6 := blk_frozen B0.out 6
      clear hko c hx1 hx2 hx3 hx4 HI HA hcell hil
      go_wp2_with (first
        | (go_at_call 17; (with_reducible refine (CK.out _).mono ?_); rintro e w' ⟨rfl, ⟨nd, rfl⟩⟩))
      refine bodyPost_ret (results_ct (p := 2) (u := 3) (ty := 28) (fn := Tryd.f9) ?h0 _ _ w.heap.size 28 #[.int .i64 8, .slice none 0 0, .int .u32 0, .int .i64 0, .string ⟨#[]⟩, .bool false, .string fmtB] (0, 0) _ ?h1 ?h2 Tryd.underlying28 rfl (by kernel_rfl)) ?h3 ?h4
      case h0 => rfl
      case h1 => rfl
      case h3 => rfl
      case h2 =>
        repeat (with_reducible first | apply blk_drewN | apply blk_drew | apply blk_alloc)
        with_reducible refine put7 (c0 := .int .i64 0) (c1 := .slice none 0 0) (c2 := .int .u32 0) (c3 := .int .i64 0) (c4 := .string ⟨#[]⟩) (c5 := .bool false) (c6 := .string ⟨#[]⟩) ?_
        repeat (with_reducible first | exact B0.out | apply blk_drewN | apply blk_drew | apply blk_alloc)
      case h4 =>
        rw [hall]
        refine ⟨_, rfl, Kd.Q_nil _ _ _ _ _, ?_⟩
        repeat (first | (with_reducible first | exact hbf.out | apply below_alloc | apply pw_below_drewN | apply below_drew1) | refine below_set ?_ (by omega))
    | true =>
      rw [hko] at CK
      have hall' : ((ks ++ [wd (wordsB s) i]).all keyP) = true := by rw [List.all_append, HA.out, List.all_cons, hko]; rfl
      have hks := Lib.hid (keys_snoc (wordsB s) i hx3 hil)
      rw [← hx4] at hks
      have hll : Hid (ks.length < 20) := Lib.hid (by rw [hx4, List.length_drop, List.length_take]; have := H17.out; omega)
      obtain ⟨k4, rfl⟩ : ∃ k, gk = k + 1 := ⟨gk - 1, by omega⟩
      clear c hil hko hx1 hx2 hx3 hx4
      go_wp2_with (first
        | (go_at_call 17; (with_reducible refine (CK.out _).mono ?_); rintro e w' ⟨rfl, ⟨nd, rfl⟩⟩))
      skip
      have hb5 := pw_below_drewN (Below.refl wr.heap.size wr) nd
      generalize wr.drewN nd = w5 at hb5 ⊢
      clear hw
      have HO' := Lib.hid (Kd.R_drew (Kd.R_below HO.out hb5))
      have HU' := Lib.hid (Kd.R_drew (Kd.R_below HU.out hb5))
      have B0' := Lib.hid (blk_drew (blk_below B0.out hb5))
      have B1' := Lib.hid (blk_drew (blk_below B1.out hb5))
      have B2' := Lib.hid (blk_drew (blk_below B2.out hb5))
      have HB' := Lib.hid (below_drew1 (below_step HB.out hb5))
      have hw' := hcell HO'.out
      clear hcell HO HU B0 B1 B2 HB hb5 hbf
      skip
      refine start_ (n := 10) (S := fun w' => w'.cell? ⟨w2.heap.size + 1, 0, none⟩ = some (.int .i64 1) ∧ w'.cell? ⟨w2.heap.size + 1, 1, none⟩ = some (u) ∧ w'.cell? ⟨w2.heap.size + 1, 2, none⟩ = some (.int .u32 0) ∧ w'.cell? ⟨w2.heap.size + 1, 3, none⟩ = some (.int .i64 0) ∧ w'.cell? ⟨w2.heap.size + 1, 4, none⟩ = some (.string (⟨#[]⟩ : ByteArray)) ∧ w'.cell? ⟨w2.heap.size + 1, 5, none⟩ = some (.bool false) ∧ w'.cell? ⟨w2.heap.size + 1, 6, none⟩ = some (.string (⟨#[]⟩ : ByteArray)) ∧ w'.cell? ⟨g, x.toNat, none⟩ = some (.string (wd (wordsB s) i))) (ds := [7, 9]) #[false, false, false, false, false, false, false, false, false, false] (by kernel_rfl) rfl rfl ⟨(blk_cell B2'.out 0).trans rfl, (blk_cell B2'.out 1).trans rfl, (blk_cell B2'.out 2).trans rfl, (blk_cell B2'.out 3).trans rfl, (blk_cell B2'.out 4).trans rfl, (blk_cell B2'.out 5).trans rfl, (blk_cell B2'.out 6).trans rfl, hw'⟩ (fun hHeld => ?_)
      refine with_tabW refGet_tab refGet_bits (fun HT_ HW_ => ?_)
      generalize w5.drew = w6 at HO' HU' B0' B1' B2' HB' hw' hHeld ⊢
      refine pure_ (i := 0) (N := some 74) (v := ?_) (a' := ?_) #[true, false, false, false, false, false, false, false, false, false] rfl rfl (any_of HT_.out (by kernel_rfl)) (fun _ _ _ h => h) (Or.inl ⟨by rfl, ?_⟩) ?_ ?_
      rotate_left
      · intro w'
        go_simp
        with_reducible rfl
      rotate_left
      · simp only [Act.put, List.setIfInBounds_toArray, List.set_cons_zero, List.set_cons_succ, i64_w, i32_w]
        rfl
      refine pure_ (i := 2) (N := some 76) (v := ?_) (a' := ?_) #[true, false, true, false, false, false, false, false, false, false] rfl rfl (any_of HT_.out (by kernel_rfl)) (fun _ _ _ h => h) (Or.inl ⟨by rfl, ?_⟩) ?_ ?_
      rotate_left
      · intro w'
        go_simp
        with_reducible rfl
      rotate_left
      · simp only [Act.put, List.setIfInBounds_toArray, List.set_cons_zero, List.set_cons_succ, i64_w, i32_w]
        rfl
      refine pure_ (i := 3) (N := some 77) (v := ?_) (a' := ?_) #[true, false, true, true, false, false, false, false, false, false] rfl rfl (any_of HT_.out (by kernel_rfl)) (fun _ _ _ h => h) (Or.inl ⟨by rfl, ?_⟩) ?_ ?_
      rotate_left
      · intro w'
        go_simp
        with_reducible rfl
      rotate_left
      · simp only [Act.put, List.setIfInBounds_toArray, List.set_cons_zero, List.set_cons_succ, i64_w, i32_w]
        rfl
      refine pure_ (i := 4) (N := some 78) (v := ?_) (a' := ?_) #[true, false, true, true, true, false, false, false, false, false] rfl rfl (any_of HT_.out (by kernel_rfl)) (fun _ _ _ h => h) (Or.inl ⟨by rfl, ?_⟩) ?_ ?_
      rotate_left
      · intro w'
        go_simp
        with_reducible rfl
      rotate_left
      · simp only [Act.put, List.setIfInBounds_toArray, List.set_cons_zero, List.set_cons_succ, i64_w, i32_w]
        rfl
      refine take_ (i := 1) (N := some 75) (v := ?_) (a' := ?_) #[true, true, true, true, true, false, false, false, false, false] rfl rfl (take_ofW HT_.out HW_.out (by kernel_rfl)) (fun _ _ _ h => h) (Or.inl ⟨by rfl, ?_⟩) hHeld ?_ ?_
      rotate_left
      · rintro w' ⟨s0, s1, s2, s3, s4, s5, s6, s7⟩
        go_simp
        with_reducible rfl
      rotate_left
      · simp only [Act.put, List.setIfInBounds_toArray, List.set_cons_zero, List.set_cons_succ, i64_w, i32_w]
        rfl
      refine take_ (i := 5) (N := some 79) (v := ?_) (a' := ?_) #[true, true, true, true, true, true, false, false, false, false] rfl rfl (take_ofW HT_.out HW_.out (by kernel_rfl)) (fun _ _ _ h => h) (Or.inl ⟨by rfl, ?_⟩) hHeld ?_ ?_
      rotate_left
      · rintro w' ⟨s0, s1, s2, s3, s4, s5, s6, s7⟩
        go_simp
        with_reducible rfl
      rotate_left
      · simp only [Act.put, List.setIfInBounds_toArray, List.set_cons_zero, List.set_cons_succ, i64_w, i32_w]
        rfl
      refine one_ (i := 6) (N := some 80) #[true, true, true, true, true, true, true, false, false, false] rfl rfl (one_of HT_.out (by kernel_rfl)) (by decide) (fun K hK => ?_)
      refine value_ (w1 := ?_) (v := ?_) (by rfl) rfl ?_ ?_
      rotate_left 2
      · go_simp
        constructor
        rotate_left
        · rfl
        rfl
      refine hK.out _ _ ⟨(blk_cell (blk_alloc B2'.out _) 0).trans rfl, (blk_cell (blk_alloc B2'.out _) 1).trans rfl, (blk_cell (blk_alloc B2'.out _) 2).trans rfl, (blk_cell (blk_alloc B2'.out _) 3).trans rfl, (blk_cell (blk_alloc B2'.out _) 4).trans rfl, (blk_cell (blk_alloc B2'.out _) 5).trans rfl, (blk_cell (blk_alloc B2'.out _) 6).trans rfl, (World.cell?_alloc_lt _ _ _ (World.block_lt_of_cell? _ _ (hHeld.2.2.2.2.2.2.2))).trans (hHeld.2.2.2.2.2.2.2)⟩ (fun hHeld => ?_)
      clear hK K
      refine norm_ (a' := ?_) ?_ ?_
      rotate_left
      · show Act.put _ (some 80) _ = _
        simp only [Act.put, List.setIfInBounds_toArray, List.set_cons_zero, List.set_cons_succ, i64_w, i32_w]
        rfl
      refine last_ (i := 7) (N := some 81) #[true, true, true, true, true, true, true, true, false, false] rfl rfl (one_of HT_.out (by kernel_rfl)) (by decide) (fun K hK => ?_)
      refine Kd.R_append_step Kd.string (w0 := (w.alloc (.cells #[.int .i64 0, .slice none 0 0, .int .u32 0, .int .i64 0, .string ⟨#[]⟩, .bool false, .string ⟨#[]⟩] 28))) (w.alloc (.cells #[.int .i64 0, .slice none 0 0, .int .u32 0, .int .i64 0, .string ⟨#[]⟩, .bool false, .string ⟨#[]⟩] 28)).heap.size (by rfl) (.tmp 75) (.tmp 80) 22 9 (.string ⟨#[]⟩) 16 rfl Tryd.underlying22 info9 rfl (by decide) (by omega) u ks (wd (wordsB s) i) [.string (wd (wordsB s) i)] (fun k_ => some k_ ≠ ((.slice (some ⟨g, 0, none⟩) n cap) : Value).ownBlock) (fun _ => False) rfl rfl ?aP (fun _ hk => hk.elim) ?aF ?aO ?aB ?aS ?aL ?_
      (case aP => exact rfl)
      (case aB => exact HB'.out)
      (case aF => exact (fun k_ hk => Kd.fresh' (Kd.R_lt HO'.out) k_ hk))
      (case aO => exact HU'.out)
      (case aS => exact (below_size HB'.out))
      (case aL => have := hll.out; omega)
      intro v w66 ho hb hg hat
      have HOa := Lib.hid (Kd.R_after (ok := fun _ => True) HO'.out hg hat)
      have B0a := Lib.hid (blk_grown B0'.out hg (Kd.R_ne HU'.out B0'.out (by decide)))
      have B1a := Lib.hid (blk_grown B1'.out hg (Kd.R_ne HU'.out B1'.out (by decide)))
      have B2a := Lib.hid (blk_grown B2'.out hg (Kd.R_ne HU'.out B2'.out (by decide)))
      have HUa := Lib.hid ho
      have HBa := Lib.hid hb
      clear HO' HU' B0' B1' B2' HB' hw' ho hb hg hat
      obtain ⟨A9, c9, ev⟩ := Kd.R_slice HUa.out
      rw [show (ks ++ [wd (wordsB s) i]).length = ks.length + 1 from by simp] at ev
      subst ev
      refine hK.out _ _ ?_
      clear hK K
      refine norm_ (a' := ?_) ?_ ?_
      rotate_left
      · show Act.put _ (some 81) _ = _
        simp only [Act.put, List.setIfInBounds_toArray, List.set_cons_zero, List.set_cons_succ, i64_w, i32_w]
        rfl
      refine pure_ (i := 8) (N := some 82) (v := ?_) (a' := ?_) #[true, true, true, true, true, true, true, true, true, false] rfl rfl (any_of HT_.out (by kernel_rfl)) (fun _ _ _ h => h) (Or.inl ⟨by rfl, ?_⟩) ?_ ?_
      rotate_left
      · intro w'
        go_simp
        with_reducible rfl
      rotate_left
      · simp only [Act.put, List.setIfInBounds_toArray, List.set_cons_zero, List.set_cons_succ, i64_w, i32_w]
        rfl
      refine last_ (i := 9) (N := none) #[true, true, true, true, true, true, true, true, true, true] rfl rfl (one_of HT_.out (by kernel_rfl)) (by decide) (fun K hK => ?_)
      have hs68 : w66.cell? ⟨w2.heap.size + 1, 1, none⟩ = some u := (blk_cell B2a.out 1).trans rfl
      have hfs68 := blk_frozen B2a.out 1
      refine skip_ (w1 := ?_) (by rfl) rfl ?_ ?_
      rotate_left
      · go_simp
        rfl
      refine hK.out _ _ ?_
      clear hK K
      refine done_ (done_of HT_.out (by kernel_rfl)) ?_
      try go_wp2
      go_roundg k4
      case measure => have := HI.out; omega
      case rel =>
        obtain ⟨hx1, hx2, hx3, hx4⟩ := HI.out
        refine ⟨_, i + 1, .slice A9 (ks.length + 1) c9, ks ++ [wd (wordsB s) i], rfl, Lib.hid ⟨by omega, by omega, by omega, hks.out.symm⟩, Lib.hid hall', Lib.hid ?r1, Lib.hid ?r2, Lib.hid ?r3, Lib.hid ?r4, Lib.hid ?r5, Lib.hid ?r6⟩
        case r1 => (with_reducible repeat (first | apply rA | apply rN | apply rD)); exact Kd.R_mono (Kd.R_far (p := ⟨w2.heap.size + 1, 1, none⟩) (Kd.R_types HOa.out B2a.out (by decide)) (fun _ hk => hk.2) _) (fun _ hk => hk.1)
        case r2 => (with_reducible repeat (first | apply rA | apply rN | apply rD)); exact Kd.R_mono (Kd.R_far (p := ⟨w2.heap.size + 1, 1, none⟩) (Kd.R_types HUa.out B2a.out (by decide)) (fun _ hk => hk.2) _) (fun _ hk => hk.1)
        case r3 => (with_reducible repeat (first | refine bN ?_ _ | refine bD ?_ | refine bA ?_ _)); exact blk_far B0a.out ng1 _
        case r4 => (with_reducible repeat (first | refine bN ?_ _ | refine bD ?_ | refine bA ?_ _)); exact blk_far B1a.out ng2 _
        case r5 => (with_reducible repeat (first | refine bN ?_ _ | refine bD ?_ | refine bA ?_ _)); exact blk_put (cs := #[.int .i64 1, u, .int .u32 0, .int .i64 0, .string ⟨#[]⟩, .bool false, .string ⟨#[]⟩]) B2a.out 1 _ rfl
        case r6 => repeat (first | (with_reducible first | exact HBa.out | apply qA | apply qN | apply qD) | refine below_set ?_ (by simp; omega))
end Go.Proofs.YthinmioognadpaaDoor.Cmd

/- The reference's Parse at any line (own text). -/
namespace Go.Proofs.YthinmioognadpaaDoor.Cmd
open Go.RowKit Go.Proofs.YthinmioognadpaaDoorW.PrintWords Go.Proofs.YthinmioognadpaaDoorW.PrintLast Go.Proofs.YthinmioognadpaaDoorW.PrintMore Go.Proofs.YthinmioognadpaaDoor.PCmd Go.Proofs.YthinmioognadpaaDoor.Split
set_option linter.unusedVariables false
set_option linter.unusedSimpArgs false
set_option maxRecDepth 100000 in
set_option maxHeartbeats 1600000 in
theorem rpar_nil (s : ByteArray) (hs : s.size ≤ 1000000) (hn : (wordsB s) = []) (w : World) :
    Calls Tryd.prog 9 #[.string s] w (TellsC (badA errB (-1)) w.heap.size w) := by
  have CW := Lib.hid (fun w => refWords_nil s hs hn w)
  have CF := Lib.hid rbad_fmt
  have CE := Lib.hid rbad_err
  clear hn
  refine Calls.mono (R := fun e w' => e = .returned (.tuple #[.agg #[.int .i64 8, .slice none 0 0, .int .u32 0, .int .i64 0, .string ⟨#[]⟩, .bool false, .string errB], .int .i64 (-1)]) ∧ Below w.heap.size w w') ?_ ?_
  · go_enter Tryd.func9, Tryd.ntmps9
    go_wp2_with (first
      | (go_at_call 15; ((with_reducible refine (CW.out _).mono ?_); rintro e w1 ⟨A, cap, rfl, hb1⟩; obtain ⟨hc9, hf9⟩ := bcell hb1; have hz9 := hb1.size; (simp at hz9); have hz8 : w.heap.size < w1.heap.size := (by omega); clear hz9))
      | (go_at_call 16; (with_reducible refine (CF.out _).mono ?_); rintro e w2 ⟨rfl, hb2⟩; obtain ⟨hc7, hf7⟩ := bcell hb2; have hz7 := hb2.size; have hz6 : w.heap.size < w2.heap.size := (by omega))
      | (go_at_call 16; (with_reducible refine (CE.out _).mono ?_); rintro e w3 ⟨rfl, hb3⟩; obtain ⟨hc6, hf6⟩ := bcell hb3; have hz4 := hb3.size; (simp at hz4)))
    all_goals
      clear hc9 hf9 hc7 hf7 hc6 hf6
      have hblk := Lib.hid (blk_below (blk_below (blk_new w (.cells #[.int .i64 0, .slice none 0 0, .int .u32 0, .int .i64 0, .string ⟨#[]⟩, .bool false, .string ⟨#[]⟩] 28)) hb1) hb2)
      have hbel := Lib.hid (below_step (below_step (below_alloc (Below.refl w.heap.size w) (.cells #[.int .i64 0, .slice none 0 0, .int .u32 0, .int .i64 0, .string ⟨#[]⟩, .bool false, .string ⟨#[]⟩] 28)) hb1) hb2)
      refine bodyPost_ret (results_ct (p := 2) (u := 3) (ty := 28) (fn := Tryd.f9) ?h0 _ _ w.heap.size 28 #[.int .i64 8, .slice none 0 0, .int .u32 0, .int .i64 0, .string ⟨#[]⟩, .bool false, .string errB] (0, 0) _ ?h1 ?h2 Tryd.underlying28 rfl (by kernel_rfl)) ?h3 ?h4
      case h0 => rfl
      case h1 => rfl
      case h3 => rfl
      case h2 =>
        repeat (with_reducible first | apply blk_drewN | apply blk_drew | apply blk_alloc)
        with_reducible refine put7 (c0 := .int .i64 0) (c1 := .slice none 0 0) (c2 := .int .u32 0) (c3 := .int .i64 0) (c4 := .string ⟨#[]⟩) (c5 := .bool false) (c6 := .string ⟨#[]⟩) ?_
        refine blk_below ?_ hb3
        repeat (first | (with_reducible first | exact hblk.out | apply blk_drewN | apply blk_drew | apply blk_alloc) | refine blk_far ?_ (by show w.heap.size ≠ w2.heap.size; omega) _)
      case h4 =>
        refine ⟨rfl, ?_⟩
        repeat (first | (with_reducible first | exact hbel.out | apply below_alloc | apply pw_below_drewN | apply below_drew1) | refine below_set ?_ (by omega) | refine below_step ?_ hb3)
  · rintro e w' ⟨rfl, hb⟩
    exact ⟨_, rfl, Kd.Q_nil _ _ _ _ _, hb⟩
theorem refParse_any (s : ByteArray) (hs : s.size ≤ 1000000) (w : World) : Calls Tryd.prog 9 #[.string s] w (TellsC (parseP (wordsB s)) w.heap.size w) := by
  have hlen : (wordsB s).length ≤ 1000001 := by
    unfold wordsB
    have h1 := List.length_filter_le (fun x : ByteArray => !x.data.toList.isEmpty) (splitB s)
    have h2 := splitB_le s
    omega
  unfold parseP
  by_cases h0 : wordsB s = []
  · rw [if_pos h0]; exact rpar_nil s hs h0 w
  rw [if_neg h0]
  have hp : 0 < (wordsB s).length := List.length_pos_iff.2 h0
  obtain ⟨n, hn⟩ : ∃ n, (wordsB s).length = n := ⟨_, rfl⟩
  rw [hn] at hlen hp ⊢
  by_cases c0 : wd (wordsB s) 0 = getB
  · rw [if_pos c0]
    have e0 : ((wd (wordsB s) 0).toList == [115, 116, 97, 116, 115]) = false := by rw [c0]; kernel_rfl
    have e1 : ((wd (wordsB s) 0).toList == [118, 101, 114, 115, 105, 111, 110]) = false := by rw [c0]; kernel_rfl
    have e2 : ((wd (wordsB s) 0).toList == [113, 117, 105, 116]) = false := by rw [c0]; kernel_rfl
    have e3 : ((wd (wordsB s) 0).toList == [103, 101, 116]) = true := by rw [c0]; kernel_rfl
    by_cases h1 : n = 1
    · subst h1
      rw [if_neg (by omega)]
      exact rpar_get_1 s hs hn w e0 e1 e2 e3
    · by_cases h17 : n ≤ 17
      · have h := rpar_get s hs n hn (by omega) hlen h17 w e0 e1 e2 e3 _ rfl
        unfold getP at h
        cases hk : ((wordsB s).drop 1).all keyP with
        | true =>
          rw [hk, if_pos rfl] at h
          rw [if_pos ⟨by omega, h17, rfl⟩]
          exact h
        | false =>
          rw [hk, if_neg (by simp)] at h
          rw [if_neg (by simp)]
          exact h
      · rw [if_neg (by omega)]
        exact rpar_get_big s hs n hn (by omega) hlen (by omega) w e0 e1 e2 e3 _ rfl
  rw [if_neg c0]
  by_cases c1 : wd (wordsB s) 0 = setB
  · rw [if_pos c1]
    have e0 : ((wd (wordsB s) 0).toList == [115, 116, 97, 116, 115]) = false := by rw [c1]; kernel_rfl
    have e1 : ((wd (wordsB s) 0).toList == [118, 101, 114, 115, 105, 111, 110]) = false := by rw [c1]; kernel_rfl
    have e2 : ((wd (wordsB s) 0).toList == [113, 117, 105, 116]) = false := by rw [c1]; kernel_rfl
    have e3 : ((wd (wordsB s) 0).toList == [103, 101, 116]) = false := by rw [c1]; kernel_rfl
    have e4 : ((wd (wordsB s) 0).toList == [100, 101, 108, 101, 116, 101]) = false := by rw [c1]; kernel_rfl
    have e5 : ((wd (wordsB s) 0).toList == [116, 111, 117, 99, 104]) = false := by rw [c1]; kernel_rfl
    have e6 : ((wd (wordsB s) 0).toList == [115, 101, 116]) = true := by rw [c1]; kernel_rfl
    by_cases h1 : n = 1
    · subst h1
      exact rpar_set_1 s hs hn w e0 e1 e2 e3 e4 e5 e6
    · refine rpar_set s hs n hn (by omega) hlen w e0 e1 e2 e3 e4 e5 e6 _ rfl ?_
      rintro rfl
      exact lit_iff _ noreplyB
  rw [if_neg c1]
  by_cases c2 : wd (wordsB s) 0 = deleteB
  · rw [if_pos c2]
    have e0 : ((wd (wordsB s) 0).toList == [115, 116, 97, 116, 115]) = false := by rw [c2]; kernel_rfl
    have e1 : ((wd (wordsB s) 0).toList == [118, 101, 114, 115, 105, 111, 110]) = false := by rw [c2]; kernel_rfl
    have e2 : ((wd (wordsB s) 0).toList == [113, 117, 105, 116]) = false := by rw [c2]; kernel_rfl
    have e3 : ((wd (wordsB s) 0).toList == [103, 101, 116]) = false := by rw [c2]; kernel_rfl
    have e4 : ((wd (wordsB s) 0).toList == [100, 101, 108, 101, 116, 101]) = true := by rw [c2]; kernel_rfl
    have n2 : ((wd (wordsB s) 2).toList == [110, 111, 114, 101, 112, 108, 121]) = decide (wd (wordsB s) 2 = noreplyB) := lit_iff _ noreplyB
    by_cases h1 : n = 1
    · subst h1
      rw [if_neg (by omega)]
      exact rpar_delete_1 s hs hn w e0 e1 e2 e3 e4
    by_cases h2 : n = 2
    · subst h2
      cases hk : keyP (wd (wordsB s) 1) with
      | true =>
        rw [if_pos ⟨Or.inl rfl, rfl⟩]
        exact rpar_delete_no s hs hn w e0 e1 e2 e3 e4 _ rfl hk
      | false => rw [if_neg (by simp)]; exact rpar_delete_no_k s hs hn w e0 e1 e2 e3 e4 _ rfl hk
    · by_cases h3 : n = 3
      · subst h3
        by_cases hr : wd (wordsB s) 2 = noreplyB
        · rw [decide_eq_true hr] at n2
          cases hk : keyP (wd (wordsB s) 1) with
          | true =>
            rw [if_pos ⟨Or.inr ⟨rfl, hr⟩, rfl⟩]
            exact rpar_delete_yes s hs hn w e0 e1 e2 e3 e4 n2 hk
          | false => rw [if_neg (by simp)]; exact rpar_delete_yes_k s hs hn w e0 e1 e2 e3 e4 n2 hk
        · rw [decide_eq_false hr] at n2
          rw [if_neg (by rintro ⟨h | h, _⟩; exact absurd h (by omega); exact hr h.2)]
          exact rpar_delete_x s hs hn w e0 e1 e2 e3 e4 n2
      · rw [if_neg (by omega)]
        exact rpar_delete_n s hs n hn (by omega) hlen h2 h3 w e0 e1 e2 e3 e4 _ rfl
  rw [if_neg c2]
  by_cases c3 : wd (wordsB s) 0 = touchB
  · rw [if_pos c3]
    have e0 : ((wd (wordsB s) 0).toList == [115, 116, 97, 116, 115]) = false := by rw [c3]; kernel_rfl
    have e1 : ((wd (wordsB s) 0).toList == [118, 101, 114, 115, 105, 111, 110]) = false := by rw [c3]; kernel_rfl
    have e2 : ((wd (wordsB s) 0).toList == [113, 117, 105, 116]) = false := by rw [c3]; kernel_rfl
    have e3 : ((wd (wordsB s) 0).toList == [103, 101, 116]) = false := by rw [c3]; kernel_rfl
    have e4 : ((wd (wordsB s) 0).toList == [100, 101, 108, 101, 116, 101]) = false := by rw [c3]; kernel_rfl
    have e5 : ((wd (wordsB s) 0).toList == [116, 111, 117, 99, 104]) = true := by rw [c3]; kernel_rfl
    have n3 : ((wd (wordsB s) 3).toList == [110, 111, 114, 101, 112, 108, 121]) = decide (wd (wordsB s) 3 = noreplyB) := lit_iff _ noreplyB
    by_cases h1 : n = 1
    · subst h1
      rw [if_neg (by omega)]
      exact rpar_touch_1 s hs hn w e0 e1 e2 e3 e4 e5
    by_cases h2 : n = 3
    · subst h2
      cases hk : keyP (wd (wordsB s) 1) with
      | false => rw [if_neg (by simp)]; exact rpar_touch_no_k s hs hn w e0 e1 e2 e3 e4 e5 _ rfl hk
      | true =>
        cases hm : momB (wd (wordsB s) 2) with
        | false => rw [if_neg (by simp)]; exact rpar_touch_no_m s hs hn w e0 e1 e2 e3 e4 e5 _ rfl hm hk
        | true =>
          rw [if_pos ⟨Or.inl rfl, rfl, rfl⟩]
          exact rpar_touch_no s hs hn w e0 e1 e2 e3 e4 e5 _ rfl hm hk
    · by_cases h3 : n = 4
      · subst h3
        by_cases hr : wd (wordsB s) 3 = noreplyB
        · rw [decide_eq_true hr] at n3
          cases hk : keyP (wd (wordsB s) 1) with
          | false => rw [if_neg (by simp)]; exact rpar_touch_yes_k s hs hn w e0 e1 e2 e3 e4 e5 n3 hk
          | true =>
            cases hm : momB (wd (wordsB s) 2) with
            | false => rw [if_neg (by simp)]; exact rpar_touch_yes_m s hs hn w e0 e1 e2 e3 e4 e5 n3 hm hk
            | true =>
              rw [if_pos ⟨Or.inr ⟨rfl, hr⟩, rfl, rfl⟩]
              exact rpar_touch_yes s hs hn w e0 e1 e2 e3 e4 e5 n3 hm hk
        · rw [decide_eq_false hr] at n3
          rw [if_neg (by rintro ⟨h | h, _⟩; exact absurd h (by omega); exact hr h.2)]
          exact rpar_touch_x s hs hn w e0 e1 e2 e3 e4 e5 n3
      · rw [if_neg (by omega)]
        exact rpar_touch_n s hs n hn (by omega) hlen h2 h3 w e0 e1 e2 e3 e4 e5 _ rfl
  rw [if_neg c3]
  by_cases c4 : wd (wordsB s) 0 = statsB
  · rw [if_pos c4]
    have e0 : ((wd (wordsB s) 0).toList == [115, 116, 97, 116, 115]) = true := by rw [c4]; kernel_rfl
    by_cases h1 : n = 1
    · subst h1; rw [if_pos rfl]; exact rpar_stats s hs hn w e0
    · rw [if_neg h1]; exact rpar_stats_n s hs n hn (by omega) hlen w e0 _ rfl
  rw [if_neg c4]
  by_cases c5 : wd (wordsB s) 0 = versionB
  · rw [if_pos c5]
    have e0 : ((wd (wordsB s) 0).toList == [115, 116, 97, 116, 115]) = false := by rw [c5]; kernel_rfl
    have e1 : ((wd (wordsB s) 0).toList == [118, 101, 114, 115, 105, 111, 110]) = true := by rw [c5]; kernel_rfl
    by_cases h1 : n = 1
    · subst h1; rw [if_pos rfl]; exact rpar_version s hs hn w e0 e1
    · rw [if_neg h1]; exact rpar_version_n s hs n hn (by omega) hlen w e0 e1 _ rfl
  rw [if_neg c5]
  by_cases c6 : wd (wordsB s) 0 = quitB
  · rw [if_pos c6]
    have e0 : ((wd (wordsB s) 0).toList == [115, 116, 97, 116, 115]) = false := by rw [c6]; kernel_rfl
    have e1 : ((wd (wordsB s) 0).toList == [118, 101, 114, 115, 105, 111, 110]) = false := by rw [c6]; kernel_rfl
    have e2 : ((wd (wordsB s) 0).toList == [113, 117, 105, 116]) = true := by rw [c6]; kernel_rfl
    by_cases h1 : n = 1
    · subst h1; rw [if_pos rfl]; exact rpar_quit s hs hn w e0 e1 e2
    · rw [if_neg h1]; exact rpar_quit_n s hs n hn (by omega) hlen w e0 e1 e2 _ rfl
  rw [if_neg c6]
  have e0 : ((wd (wordsB s) 0).toList == [115, 116, 97, 116, 115]) = false := (lit_iff _ statsB).trans (decide_eq_false c4)
  have e1 : ((wd (wordsB s) 0).toList == [118, 101, 114, 115, 105, 111, 110]) = false := (lit_iff _ versionB).trans (decide_eq_false c5)
  have e2 : ((wd (wordsB s) 0).toList == [113, 117, 105, 116]) = false := (lit_iff _ quitB).trans (decide_eq_false c6)
  have e3 : ((wd (wordsB s) 0).toList == [103, 101, 116]) = false := (lit_iff _ getB).trans (decide_eq_false c0)
  have e4 : ((wd (wordsB s) 0).toList == [100, 101, 108, 101, 116, 101]) = false := (lit_iff _ deleteB).trans (decide_eq_false c2)
  have e5 : ((wd (wordsB s) 0).toList == [116, 111, 117, 99, 104]) = false := (lit_iff _ touchB).trans (decide_eq_false c3)
  have e6 : ((wd (wordsB s) 0).toList == [115, 101, 116]) = false := (lit_iff _ setB).trans (decide_eq_false c1)
  by_cases h1 : n = 1
  · subst h1; exact rpar_err_1 s hs hn w e0 e1 e2 e3 e4 e5 e6
  · exact rpar_err_n s hs n hn (by omega) hlen w e0 e1 e2 e3 e4 e5 e6 _ rfl
end Go.Proofs.YthinmioognadpaaDoor.Cmd

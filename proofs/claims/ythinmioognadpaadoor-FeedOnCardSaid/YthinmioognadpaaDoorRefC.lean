/- Merged of RefParV, RefParE, RefParS, RefParD (own text; wip/tools/merge.py). -/
import Derived.Test.YthinmioognadpaaDoorRefB
/- The ways through tattlerref07.Parse (printed by wip/tools/gen_refparse.py, a program of this session). -/
namespace Go.Proofs.YthinmioognadpaaDoor.Cmd
open Go.RowKit Go.Proofs.YthinmioognadpaaDoorW.PrintWords Go.Proofs.YthinmioognadpaaDoorW.PrintLast Go.Proofs.YthinmioognadpaaDoorW.PrintMore Go.Proofs.YthinmioognadpaaDoor.PCmd Go.Proofs.YthinmioognadpaaDoor.Split
set_option linter.unusedVariables false
set_option linter.unusedSimpArgs false
set_option maxRecDepth 100000 in
set_option maxHeartbeats 1600000 in
theorem rpar_stats (s : ByteArray) (hs : s.size ≤ 1000000) (hn : (wordsB s).length = 1) (w : World) (e0 : ((wd (wordsB s) 0).toList == [115, 116, 97, 116, 115]) = true) :
    Calls Tryd.prog 9 #[.string s] w (TellsC (5, [], 0, 0, ⟨#[]⟩, false, ⟨#[]⟩, -1) w.heap.size w) := by
  have CW := Lib.hid (fun w => refWords_c s hs 1 hn (by omega) w)
  have HS := Lib.hid (fun (x : ByteArray) (h : x ∈ wordsB s) => Nat.le_trans (words_size h) hs)
  have CF := Lib.hid rbad_fmt
  have HN := Lib.hid hn
  clear hn
  refine Calls.mono (R := fun e w' => e = .returned (.tuple #[.agg #[.int .i64 5, .slice none 0 0, .int .u32 0, .int .i64 0, .string ⟨#[]⟩, .bool false, .string ⟨#[]⟩], .int .i64 (-1)]) ∧ Below w.heap.size w w') ?_ ?_
  · go_enter Tryd.func9, Tryd.ntmps9
    go_wp2_with (first
      | (go_at_call 15; ((with_reducible refine (CW.out _).mono ?_); rintro e w1 ⟨g, cap, rfl, hcap, hg, hlt, hx, hR, hb1⟩; obtain ⟨hc9, hf9⟩ := bcell hb1; have hz9 := hb1.size; (simp at hz9 hg); have hz8 : w.heap.size < w1.heap.size := (by omega); clear hz9; have x0 := wd_cell hx.out 0 (by have := HN.out; omega); clear hx))
      | (go_at_call 16; (with_reducible refine (CF.out _).mono ?_); rintro e w2 ⟨rfl, hb2⟩; obtain ⟨hc7, hf7⟩ := bcell hb2; have hz7 := hb2.size; have hz6 : w.heap.size < w2.heap.size := (by omega); have hz5 : g < w2.heap.size := (by omega)))
    all_goals
      clear hc9 hf9 hc7 hf7
      have hblk := Lib.hid (blk_below (blk_below (blk_new w (.cells #[.int .i64 0, .slice none 0 0, .int .u32 0, .int .i64 0, .string ⟨#[]⟩, .bool false, .string ⟨#[]⟩] 28)) hb1) hb2)
      have hbel := Lib.hid (below_step (below_step (below_alloc (Below.refl w.heap.size w) (.cells #[.int .i64 0, .slice none 0 0, .int .u32 0, .int .i64 0, .string ⟨#[]⟩, .bool false, .string ⟨#[]⟩] 28)) hb1) hb2)
      refine bodyPost_ret (results_ct (p := 2) (u := 3) (ty := 28) (fn := Tryd.f9) ?h0 _ _ w.heap.size 28 #[.int .i64 5, .slice none 0 0, .int .u32 0, .int .i64 0, .string ⟨#[]⟩, .bool false, .string ⟨#[]⟩] (0, 0) _ ?h1 ?h2 Tryd.underlying28 rfl (by kernel_rfl)) ?h3 ?h4
      case h0 => rfl
      case h1 => rfl
      case h3 => rfl
      case h2 =>
        repeat (with_reducible first | apply blk_drewN | apply blk_drew | apply blk_alloc)
        with_reducible refine put7 (c0 := .int .i64 0) (c1 := .slice none 0 0) (c2 := .int .u32 0) (c3 := .int .i64 0) (c4 := .string ⟨#[]⟩) (c5 := .bool false) (c6 := .string ⟨#[]⟩) ?_
        repeat (first | (with_reducible first | exact hblk.out | apply blk_drewN | apply blk_drew | apply blk_alloc) | refine blk_far ?_ (by show w.heap.size ≠ w2.heap.size; omega) _)
      case h4 =>
        refine ⟨rfl, ?_⟩
        repeat (first | (with_reducible first | exact hbel.out | apply below_alloc | apply pw_below_drewN | apply below_drew1) | refine below_set ?_ (by omega))
  · rintro e w' ⟨rfl, hb⟩
    exact ⟨_, rfl, Kd.Q_nil _ _ _ _ _, hb⟩
set_option maxRecDepth 100000 in
set_option maxHeartbeats 1600000 in
theorem rpar_stats_n (s : ByteArray) (hs : s.size ≤ 1000000) (n : Nat) (hn : (wordsB s).length = n) (hn0 : 1 < n) (hn1 : n ≤ 1000001) (w : World) (e0 : ((wd (wordsB s) 0).toList == [115, 116, 97, 116, 115]) = true) (lb : Bool) (hl : ((wd (wordsB s) (n - 1)).toList == [110, 111, 114, 101, 112, 108, 121]) = lb) :
    Calls Tryd.prog 9 #[.string s] w (TellsC (badA fmtB (-1)) w.heap.size w) := by
  have CW := Lib.hid (fun w => refWords_c s hs n hn (by omega) w)
  have HS := Lib.hid (fun (x : ByteArray) (h : x ∈ wordsB s) => Nat.le_trans (words_size h) hs)
  have HN0 := Lib.hid hn0
  have v0 : IntKind.i64.wrap ((n : Int) - 1) = (n : Int) - 1 := IntWalk.i64_in _ ⟨by omega, by omega⟩
  have v1 : 0 ≤ (n : Int) - 1 := by omega
  have v2 : ((n : Int) - 1).toNat = n - 1 := by omega
  have v3 : decide ((1 : Int) < (n : Int)) = true := decide_eq_true (by omega)
  have v4 : 1 ≤ (n : Int) := by omega
  have v5 : ((n : Int) == 0) = false := beq_eq_false_iff_ne.2 (by omega)
  have v6 : (n : Int) - 1 < (n : Int) := by omega
  have CF := Lib.hid rbad_fmt
  have HN := Lib.hid hn
  clear hn
  refine Calls.mono (R := fun e w' => e = .returned (.tuple #[.agg #[.int .i64 8, .slice none 0 0, .int .u32 0, .int .i64 0, .string ⟨#[]⟩, .bool false, .string fmtB], .int .i64 (-1)]) ∧ Below w.heap.size w w') ?_ ?_
  · go_enter Tryd.func9, Tryd.ntmps9
    go_wp2_with (first
      | (go_at_call 15; ((with_reducible refine (CW.out _).mono ?_); rintro e w1 ⟨g, cap, rfl, hcap, hg, hlt, hx, hR, hb1⟩; obtain ⟨hc9, hf9⟩ := bcell hb1; have hz9 := hb1.size; (simp at hz9 hg); have hz8 : w.heap.size < w1.heap.size := (by omega); clear hz9; have x0 := wd_cell hx.out 0 (by have := HN.out; have := HN0.out; omega); have x9 := wd_cell hx.out (n - 1) (by have := HN.out; have := HN0.out; omega); clear hx))
      | (go_at_call 16; (with_reducible refine (CF.out _).mono ?_); rintro e w2 ⟨rfl, hb2⟩; obtain ⟨hc7, hf7⟩ := bcell hb2; have hz7 := hb2.size; have hz6 : w.heap.size < w2.heap.size := (by omega); have hz5 : g < w2.heap.size := (by omega)))
    all_goals
      clear hc9 hf9 hc7 hf7
      have hblk := Lib.hid (blk_below (blk_below (blk_new w (.cells #[.int .i64 0, .slice none 0 0, .int .u32 0, .int .i64 0, .string ⟨#[]⟩, .bool false, .string ⟨#[]⟩] 28)) hb1) hb2)
      have hbel := Lib.hid (below_step (below_step (below_alloc (Below.refl w.heap.size w) (.cells #[.int .i64 0, .slice none 0 0, .int .u32 0, .int .i64 0, .string ⟨#[]⟩, .bool false, .string ⟨#[]⟩] 28)) hb1) hb2)
      refine bodyPost_ret (results_ct (p := 2) (u := 3) (ty := 28) (fn := Tryd.f9) ?h0 _ _ w.heap.size 28 #[.int .i64 8, .slice none 0 0, .int .u32 0, .int .i64 0, .string ⟨#[]⟩, .bool false, .string fmtB] (0, 0) _ ?h1 ?h2 Tryd.underlying28 rfl (by kernel_rfl)) ?h3 ?h4
      case h0 => rfl
      case h1 => rfl
      case h3 => rfl
      case h2 =>
        repeat (with_reducible first | apply blk_drewN | apply blk_drew | apply blk_alloc)
        with_reducible refine put7 (c0 := .int .i64 0) (c1 := .slice none 0 0) (c2 := .int .u32 0) (c3 := .int .i64 0) (c4 := .string ⟨#[]⟩) (c5 := .bool false) (c6 := .string ⟨#[]⟩) ?_
        repeat (first | (with_reducible first | exact hblk.out | apply blk_drewN | apply blk_drew | apply blk_alloc) | refine blk_far ?_ (by show w.heap.size ≠ w2.heap.size; omega) _)
      case h4 =>
        refine ⟨rfl, ?_⟩
        repeat (first | (with_reducible first | exact hbel.out | apply below_alloc | apply pw_below_drewN | apply below_drew1) | refine below_set ?_ (by omega))
  · rintro e w' ⟨rfl, hb⟩
    exact ⟨_, rfl, Kd.Q_nil _ _ _ _ _, hb⟩
set_option maxRecDepth 100000 in
set_option maxHeartbeats 1600000 in
theorem rpar_version (s : ByteArray) (hs : s.size ≤ 1000000) (hn : (wordsB s).length = 1) (w : World) (e0 : ((wd (wordsB s) 0).toList == [115, 116, 97, 116, 115]) = false) (e1 : ((wd (wordsB s) 0).toList == [118, 101, 114, 115, 105, 111, 110]) = true) :
    Calls Tryd.prog 9 #[.string s] w (TellsC (6, [], 0, 0, ⟨#[]⟩, false, ⟨#[]⟩, -1) w.heap.size w) := by
  have CW := Lib.hid (fun w => refWords_c s hs 1 hn (by omega) w)
  have HS := Lib.hid (fun (x : ByteArray) (h : x ∈ wordsB s) => Nat.le_trans (words_size h) hs)
  have CF := Lib.hid rbad_fmt
  have HN := Lib.hid hn
  clear hn
  refine Calls.mono (R := fun e w' => e = .returned (.tuple #[.agg #[.int .i64 6, .slice none 0 0, .int .u32 0, .int .i64 0, .string ⟨#[]⟩, .bool false, .string ⟨#[]⟩], .int .i64 (-1)]) ∧ Below w.heap.size w w') ?_ ?_
  · go_enter Tryd.func9, Tryd.ntmps9
    go_wp2_with (first
      | (go_at_call 15; ((with_reducible refine (CW.out _).mono ?_); rintro e w1 ⟨g, cap, rfl, hcap, hg, hlt, hx, hR, hb1⟩; obtain ⟨hc9, hf9⟩ := bcell hb1; have hz9 := hb1.size; (simp at hz9 hg); have hz8 : w.heap.size < w1.heap.size := (by omega); clear hz9; have x0 := wd_cell hx.out 0 (by have := HN.out; omega); clear hx))
      | (go_at_call 16; (with_reducible refine (CF.out _).mono ?_); rintro e w2 ⟨rfl, hb2⟩; obtain ⟨hc7, hf7⟩ := bcell hb2; have hz7 := hb2.size; have hz6 : w.heap.size < w2.heap.size := (by omega); have hz5 : g < w2.heap.size := (by omega)))
    all_goals
      clear hc9 hf9 hc7 hf7
      have hblk := Lib.hid (blk_below (blk_below (blk_new w (.cells #[.int .i64 0, .slice none 0 0, .int .u32 0, .int .i64 0, .string ⟨#[]⟩, .bool false, .string ⟨#[]⟩] 28)) hb1) hb2)
      have hbel := Lib.hid (below_step (below_step (below_alloc (Below.refl w.heap.size w) (.cells #[.int .i64 0, .slice none 0 0, .int .u32 0, .int .i64 0, .string ⟨#[]⟩, .bool false, .string ⟨#[]⟩] 28)) hb1) hb2)
      refine bodyPost_ret (results_ct (p := 2) (u := 3) (ty := 28) (fn := Tryd.f9) ?h0 _ _ w.heap.size 28 #[.int .i64 6, .slice none 0 0, .int .u32 0, .int .i64 0, .string ⟨#[]⟩, .bool false, .string ⟨#[]⟩] (0, 0) _ ?h1 ?h2 Tryd.underlying28 rfl (by kernel_rfl)) ?h3 ?h4
      case h0 => rfl
      case h1 => rfl
      case h3 => rfl
      case h2 =>
        repeat (with_reducible first | apply blk_drewN | apply blk_drew | apply blk_alloc)
        with_reducible refine put7 (c0 := .int .i64 0) (c1 := .slice none 0 0) (c2 := .int .u32 0) (c3 := .int .i64 0) (c4 := .string ⟨#[]⟩) (c5 := .bool false) (c6 := .string ⟨#[]⟩) ?_
        repeat (first | (with_reducible first | exact hblk.out | apply blk_drewN | apply blk_drew | apply blk_alloc) | refine blk_far ?_ (by show w.heap.size ≠ w2.heap.size; omega) _)
      case h4 =>
        refine ⟨rfl, ?_⟩
        repeat (first | (with_reducible first | exact hbel.out | apply below_alloc | apply pw_below_drewN | apply below_drew1) | refine below_set ?_ (by omega))
  · rintro e w' ⟨rfl, hb⟩
    exact ⟨_, rfl, Kd.Q_nil _ _ _ _ _, hb⟩
set_option maxRecDepth 100000 in
set_option maxHeartbeats 1600000 in
theorem rpar_version_n (s : ByteArray) (hs : s.size ≤ 1000000) (n : Nat) (hn : (wordsB s).length = n) (hn0 : 1 < n) (hn1 : n ≤ 1000001) (w : World) (e0 : ((wd (wordsB s) 0).toList == [115, 116, 97, 116, 115]) = false) (e1 : ((wd (wordsB s) 0).toList == [118, 101, 114, 115, 105, 111, 110]) = true) (lb : Bool) (hl : ((wd (wordsB s) (n - 1)).toList == [110, 111, 114, 101, 112, 108, 121]) = lb) :
    Calls Tryd.prog 9 #[.string s] w (TellsC (badA fmtB (-1)) w.heap.size w) := by
  have CW := Lib.hid (fun w => refWords_c s hs n hn (by omega) w)
  have HS := Lib.hid (fun (x : ByteArray) (h : x ∈ wordsB s) => Nat.le_trans (words_size h) hs)
  have HN0 := Lib.hid hn0
  have v0 : IntKind.i64.wrap ((n : Int) - 1) = (n : Int) - 1 := IntWalk.i64_in _ ⟨by omega, by omega⟩
  have v1 : 0 ≤ (n : Int) - 1 := by omega
  have v2 : ((n : Int) - 1).toNat = n - 1 := by omega
  have v3 : decide ((1 : Int) < (n : Int)) = true := decide_eq_true (by omega)
  have v4 : 1 ≤ (n : Int) := by omega
  have v5 : ((n : Int) == 0) = false := beq_eq_false_iff_ne.2 (by omega)
  have v6 : (n : Int) - 1 < (n : Int) := by omega
  have CF := Lib.hid rbad_fmt
  have HN := Lib.hid hn
  clear hn
  refine Calls.mono (R := fun e w' => e = .returned (.tuple #[.agg #[.int .i64 8, .slice none 0 0, .int .u32 0, .int .i64 0, .string ⟨#[]⟩, .bool false, .string fmtB], .int .i64 (-1)]) ∧ Below w.heap.size w w') ?_ ?_
  · go_enter Tryd.func9, Tryd.ntmps9
    go_wp2_with (first
      | (go_at_call 15; ((with_reducible refine (CW.out _).mono ?_); rintro e w1 ⟨g, cap, rfl, hcap, hg, hlt, hx, hR, hb1⟩; obtain ⟨hc9, hf9⟩ := bcell hb1; have hz9 := hb1.size; (simp at hz9 hg); have hz8 : w.heap.size < w1.heap.size := (by omega); clear hz9; have x0 := wd_cell hx.out 0 (by have := HN.out; have := HN0.out; omega); have x9 := wd_cell hx.out (n - 1) (by have := HN.out; have := HN0.out; omega); clear hx))
      | (go_at_call 16; (with_reducible refine (CF.out _).mono ?_); rintro e w2 ⟨rfl, hb2⟩; obtain ⟨hc7, hf7⟩ := bcell hb2; have hz7 := hb2.size; have hz6 : w.heap.size < w2.heap.size := (by omega); have hz5 : g < w2.heap.size := (by omega)))
    all_goals
      clear hc9 hf9 hc7 hf7
      have hblk := Lib.hid (blk_below (blk_below (blk_new w (.cells #[.int .i64 0, .slice none 0 0, .int .u32 0, .int .i64 0, .string ⟨#[]⟩, .bool false, .string ⟨#[]⟩] 28)) hb1) hb2)
      have hbel := Lib.hid (below_step (below_step (below_alloc (Below.refl w.heap.size w) (.cells #[.int .i64 0, .slice none 0 0, .int .u32 0, .int .i64 0, .string ⟨#[]⟩, .bool false, .string ⟨#[]⟩] 28)) hb1) hb2)
      refine bodyPost_ret (results_ct (p := 2) (u := 3) (ty := 28) (fn := Tryd.f9) ?h0 _ _ w.heap.size 28 #[.int .i64 8, .slice none 0 0, .int .u32 0, .int .i64 0, .string ⟨#[]⟩, .bool false, .string fmtB] (0, 0) _ ?h1 ?h2 Tryd.underlying28 rfl (by kernel_rfl)) ?h3 ?h4
      case h0 => rfl
      case h1 => rfl
      case h3 => rfl
      case h2 =>
        repeat (with_reducible first | apply blk_drewN | apply blk_drew | apply blk_alloc)
        with_reducible refine put7 (c0 := .int .i64 0) (c1 := .slice none 0 0) (c2 := .int .u32 0) (c3 := .int .i64 0) (c4 := .string ⟨#[]⟩) (c5 := .bool false) (c6 := .string ⟨#[]⟩) ?_
        repeat (first | (with_reducible first | exact hblk.out | apply blk_drewN | apply blk_drew | apply blk_alloc) | refine blk_far ?_ (by show w.heap.size ≠ w2.heap.size; omega) _)
      case h4 =>
        refine ⟨rfl, ?_⟩
        repeat (first | (with_reducible first | exact hbel.out | apply below_alloc | apply pw_below_drewN | apply below_drew1) | refine below_set ?_ (by omega))
  · rintro e w' ⟨rfl, hb⟩
    exact ⟨_, rfl, Kd.Q_nil _ _ _ _ _, hb⟩
set_option maxRecDepth 100000 in
set_option maxHeartbeats 1600000 in
theorem rpar_quit (s : ByteArray) (hs : s.size ≤ 1000000) (hn : (wordsB s).length = 1) (w : World) (e0 : ((wd (wordsB s) 0).toList == [115, 116, 97, 116, 115]) = false) (e1 : ((wd (wordsB s) 0).toList == [118, 101, 114, 115, 105, 111, 110]) = false) (e2 : ((wd (wordsB s) 0).toList == [113, 117, 105, 116]) = true) :
    Calls Tryd.prog 9 #[.string s] w (TellsC (7, [], 0, 0, ⟨#[]⟩, false, ⟨#[]⟩, -1) w.heap.size w) := by
  have CW := Lib.hid (fun w => refWords_c s hs 1 hn (by omega) w)
  have HS := Lib.hid (fun (x : ByteArray) (h : x ∈ wordsB s) => Nat.le_trans (words_size h) hs)
  have CF := Lib.hid rbad_fmt
  have HN := Lib.hid hn
  clear hn
  refine Calls.mono (R := fun e w' => e = .returned (.tuple #[.agg #[.int .i64 7, .slice none 0 0, .int .u32 0, .int .i64 0, .string ⟨#[]⟩, .bool false, .string ⟨#[]⟩], .int .i64 (-1)]) ∧ Below w.heap.size w w') ?_ ?_
  · go_enter Tryd.func9, Tryd.ntmps9
    go_wp2_with (first
      | (go_at_call 15; ((with_reducible refine (CW.out _).mono ?_); rintro e w1 ⟨g, cap, rfl, hcap, hg, hlt, hx, hR, hb1⟩; obtain ⟨hc9, hf9⟩ := bcell hb1; have hz9 := hb1.size; (simp at hz9 hg); have hz8 : w.heap.size < w1.heap.size := (by omega); clear hz9; have x0 := wd_cell hx.out 0 (by have := HN.out; omega); clear hx))
      | (go_at_call 16; (with_reducible refine (CF.out _).mono ?_); rintro e w2 ⟨rfl, hb2⟩; obtain ⟨hc7, hf7⟩ := bcell hb2; have hz7 := hb2.size; have hz6 : w.heap.size < w2.heap.size := (by omega); have hz5 : g < w2.heap.size := (by omega)))
    all_goals
      clear hc9 hf9 hc7 hf7
      have hblk := Lib.hid (blk_below (blk_below (blk_new w (.cells #[.int .i64 0, .slice none 0 0, .int .u32 0, .int .i64 0, .string ⟨#[]⟩, .bool false, .string ⟨#[]⟩] 28)) hb1) hb2)
      have hbel := Lib.hid (below_step (below_step (below_alloc (Below.refl w.heap.size w) (.cells #[.int .i64 0, .slice none 0 0, .int .u32 0, .int .i64 0, .string ⟨#[]⟩, .bool false, .string ⟨#[]⟩] 28)) hb1) hb2)
      refine bodyPost_ret (results_ct (p := 2) (u := 3) (ty := 28) (fn := Tryd.f9) ?h0 _ _ w.heap.size 28 #[.int .i64 7, .slice none 0 0, .int .u32 0, .int .i64 0, .string ⟨#[]⟩, .bool false, .string ⟨#[]⟩] (0, 0) _ ?h1 ?h2 Tryd.underlying28 rfl (by kernel_rfl)) ?h3 ?h4
      case h0 => rfl
      case h1 => rfl
      case h3 => rfl
      case h2 =>
        repeat (with_reducible first | apply blk_drewN | apply blk_drew | apply blk_alloc)
        with_reducible refine put7 (c0 := .int .i64 0) (c1 := .slice none 0 0) (c2 := .int .u32 0) (c3 := .int .i64 0) (c4 := .string ⟨#[]⟩) (c5 := .bool false) (c6 := .string ⟨#[]⟩) ?_
        repeat (first | (with_reducible first | exact hblk.out | apply blk_drewN | apply blk_drew | apply blk_alloc) | refine blk_far ?_ (by show w.heap.size ≠ w2.heap.size; omega) _)
      case h4 =>
        refine ⟨rfl, ?_⟩
        repeat (first | (with_reducible first | exact hbel.out | apply below_alloc | apply pw_below_drewN | apply below_drew1) | refine below_set ?_ (by omega))
  · rintro e w' ⟨rfl, hb⟩
    exact ⟨_, rfl, Kd.Q_nil _ _ _ _ _, hb⟩
set_option maxRecDepth 100000 in
set_option maxHeartbeats 1600000 in
theorem rpar_quit_n (s : ByteArray) (hs : s.size ≤ 1000000) (n : Nat) (hn : (wordsB s).length = n) (hn0 : 1 < n) (hn1 : n ≤ 1000001) (w : World) (e0 : ((wd (wordsB s) 0).toList == [115, 116, 97, 116, 115]) = false) (e1 : ((wd (wordsB s) 0).toList == [118, 101, 114, 115, 105, 111, 110]) = false) (e2 : ((wd (wordsB s) 0).toList == [113, 117, 105, 116]) = true) (lb : Bool) (hl : ((wd (wordsB s) (n - 1)).toList == [110, 111, 114, 101, 112, 108, 121]) = lb) :
    Calls Tryd.prog 9 #[.string s] w (TellsC (badA fmtB (-1)) w.heap.size w) := by
  have CW := Lib.hid (fun w => refWords_c s hs n hn (by omega) w)
  have HS := Lib.hid (fun (x : ByteArray) (h : x ∈ wordsB s) => Nat.le_trans (words_size h) hs)
  have HN0 := Lib.hid hn0
  have v0 : IntKind.i64.wrap ((n : Int) - 1) = (n : Int) - 1 := IntWalk.i64_in _ ⟨by omega, by omega⟩
  have v1 : 0 ≤ (n : Int) - 1 := by omega
  have v2 : ((n : Int) - 1).toNat = n - 1 := by omega
  have v3 : decide ((1 : Int) < (n : Int)) = true := decide_eq_true (by omega)
  have v4 : 1 ≤ (n : Int) := by omega
  have v5 : ((n : Int) == 0) = false := beq_eq_false_iff_ne.2 (by omega)
  have v6 : (n : Int) - 1 < (n : Int) := by omega
  have CF := Lib.hid rbad_fmt
  have HN := Lib.hid hn
  clear hn
  refine Calls.mono (R := fun e w' => e = .returned (.tuple #[.agg #[.int .i64 8, .slice none 0 0, .int .u32 0, .int .i64 0, .string ⟨#[]⟩, .bool false, .string fmtB], .int .i64 (-1)]) ∧ Below w.heap.size w w') ?_ ?_
  · go_enter Tryd.func9, Tryd.ntmps9
    go_wp2_with (first
      | (go_at_call 15; ((with_reducible refine (CW.out _).mono ?_); rintro e w1 ⟨g, cap, rfl, hcap, hg, hlt, hx, hR, hb1⟩; obtain ⟨hc9, hf9⟩ := bcell hb1; have hz9 := hb1.size; (simp at hz9 hg); have hz8 : w.heap.size < w1.heap.size := (by omega); clear hz9; have x0 := wd_cell hx.out 0 (by have := HN.out; have := HN0.out; omega); have x9 := wd_cell hx.out (n - 1) (by have := HN.out; have := HN0.out; omega); clear hx))
      | (go_at_call 16; (with_reducible refine (CF.out _).mono ?_); rintro e w2 ⟨rfl, hb2⟩; obtain ⟨hc7, hf7⟩ := bcell hb2; have hz7 := hb2.size; have hz6 : w.heap.size < w2.heap.size := (by omega); have hz5 : g < w2.heap.size := (by omega)))
    all_goals
      clear hc9 hf9 hc7 hf7
      have hblk := Lib.hid (blk_below (blk_below (blk_new w (.cells #[.int .i64 0, .slice none 0 0, .int .u32 0, .int .i64 0, .string ⟨#[]⟩, .bool false, .string ⟨#[]⟩] 28)) hb1) hb2)
      have hbel := Lib.hid (below_step (below_step (below_alloc (Below.refl w.heap.size w) (.cells #[.int .i64 0, .slice none 0 0, .int .u32 0, .int .i64 0, .string ⟨#[]⟩, .bool false, .string ⟨#[]⟩] 28)) hb1) hb2)
      refine bodyPost_ret (results_ct (p := 2) (u := 3) (ty := 28) (fn := Tryd.f9) ?h0 _ _ w.heap.size 28 #[.int .i64 8, .slice none 0 0, .int .u32 0, .int .i64 0, .string ⟨#[]⟩, .bool false, .string fmtB] (0, 0) _ ?h1 ?h2 Tryd.underlying28 rfl (by kernel_rfl)) ?h3 ?h4
      case h0 => rfl
      case h1 => rfl
      case h3 => rfl
      case h2 =>
        repeat (with_reducible first | apply blk_drewN | apply blk_drew | apply blk_alloc)
        with_reducible refine put7 (c0 := .int .i64 0) (c1 := .slice none 0 0) (c2 := .int .u32 0) (c3 := .int .i64 0) (c4 := .string ⟨#[]⟩) (c5 := .bool false) (c6 := .string ⟨#[]⟩) ?_
        repeat (first | (with_reducible first | exact hblk.out | apply blk_drewN | apply blk_drew | apply blk_alloc) | refine blk_far ?_ (by show w.heap.size ≠ w2.heap.size; omega) _)
      case h4 =>
        refine ⟨rfl, ?_⟩
        repeat (first | (with_reducible first | exact hbel.out | apply below_alloc | apply pw_below_drewN | apply below_drew1) | refine below_set ?_ (by omega))
  · rintro e w' ⟨rfl, hb⟩
    exact ⟨_, rfl, Kd.Q_nil _ _ _ _ _, hb⟩
end Go.Proofs.YthinmioognadpaaDoor.Cmd

/- The ways through tattlerref07.Parse (printed by wip/tools/gen_refparse.py, a program of this session). -/
namespace Go.Proofs.YthinmioognadpaaDoor.Cmd
open Go.RowKit Go.Proofs.YthinmioognadpaaDoorW.PrintWords Go.Proofs.YthinmioognadpaaDoorW.PrintLast Go.Proofs.YthinmioognadpaaDoorW.PrintMore Go.Proofs.YthinmioognadpaaDoor.PCmd Go.Proofs.YthinmioognadpaaDoor.Split
set_option linter.unusedVariables false
set_option linter.unusedSimpArgs false
set_option maxRecDepth 100000 in
set_option maxHeartbeats 1600000 in
theorem rpar_err_1 (s : ByteArray) (hs : s.size ≤ 1000000) (hn : (wordsB s).length = 1) (w : World) (e0 : ((wd (wordsB s) 0).toList == [115, 116, 97, 116, 115]) = false) (e1 : ((wd (wordsB s) 0).toList == [118, 101, 114, 115, 105, 111, 110]) = false) (e2 : ((wd (wordsB s) 0).toList == [113, 117, 105, 116]) = false) (e3 : ((wd (wordsB s) 0).toList == [103, 101, 116]) = false) (e4 : ((wd (wordsB s) 0).toList == [100, 101, 108, 101, 116, 101]) = false) (e5 : ((wd (wordsB s) 0).toList == [116, 111, 117, 99, 104]) = false) (e6 : ((wd (wordsB s) 0).toList == [115, 101, 116]) = false) :
    Calls Tryd.prog 9 #[.string s] w (TellsC (badA errB (-1)) w.heap.size w) := by
  have CW := Lib.hid (fun w => refWords_c s hs 1 hn (by omega) w)
  have HS := Lib.hid (fun (x : ByteArray) (h : x ∈ wordsB s) => Nat.le_trans (words_size h) hs)
  have CF := Lib.hid rbad_fmt
  have CE := Lib.hid rbad_err
  have HN := Lib.hid hn
  clear hn
  refine Calls.mono (R := fun e w' => e = .returned (.tuple #[.agg #[.int .i64 8, .slice none 0 0, .int .u32 0, .int .i64 0, .string ⟨#[]⟩, .bool false, .string errB], .int .i64 (-1)]) ∧ Below w.heap.size w w') ?_ ?_
  · go_enter Tryd.func9, Tryd.ntmps9
    go_wp2_with (first
      | (go_at_call 15; ((with_reducible refine (CW.out _).mono ?_); rintro e w1 ⟨g, cap, rfl, hcap, hg, hlt, hx, hR, hb1⟩; obtain ⟨hc9, hf9⟩ := bcell hb1; have hz9 := hb1.size; (simp at hz9 hg); have hz8 : w.heap.size < w1.heap.size := (by omega); clear hz9; have x0 := wd_cell hx.out 0 (by have := HN.out; omega); clear hx))
      | (go_at_call 16; (with_reducible refine (CF.out _).mono ?_); rintro e w2 ⟨rfl, hb2⟩; obtain ⟨hc7, hf7⟩ := bcell hb2; have hz7 := hb2.size; have hz6 : w.heap.size < w2.heap.size := (by omega); have hz5 : g < w2.heap.size := (by omega))
      | (go_at_call 16; (with_reducible refine (CE.out _).mono ?_); rintro e w3 ⟨rfl, hb3⟩; obtain ⟨hc6, hf6⟩ := bcell hb3; have hz4 := hb3.size; (simp at hz4)))
    all_goals
      clear hc9 hf9 hc7 hf7 hc6 hf6
      have hblk := Lib.hid (blk_below (blk_below (blk_new w (.cells #[.int .i64 0, .slice none 0 0, .int .u32 0, .int .i64 0, .string ⟨#[]⟩, .bool false, .string ⟨#[]⟩] 28)) hb1) hb2)
      have hbel := Lib.hid (below_step (below_step (below_alloc (Below.refl w.heap.size w) (.cells #[.int .i64 0, .slice none 0 0, .int .u32 0, .int .i64 0, .string ⟨#[]⟩, .bool false, .string ⟨#[]⟩] 28)) hb1) hb2)
      refine bodyPost_ret (results_ct (p := 2) (u := 3) (ty := 28) (fn := Tryd.f9) ?h0 _ _ w.heap.size 28 #[.int .i64 8, .slice none 0 0, .int .u32 0, .int .i64 0, .string ⟨#[]⟩, .bool false, .string errB] (0, 0) _ ?h1 ?h2 Tryd.underlying28 rfl (by kernel_rfl)) ?h3 ?h4
      case h0 => rfl
      case h1 => rfl
      case h3 => rfl
      case h2 =>
        repeat (with_reducible first | apply blk_drewN | apply blk_drew | apply blk_alloc)
        with_reducible refine put7 (c0 := .int .i64 0) (c1 := .slice none 0 0) (c2 := .int .u32 0) (c3 := .int .i64 0) (c4 := .string ⟨#[]⟩) (c5 := .bool false) (c6 := .string ⟨#[]⟩) ?_
        refine blk_below ?_ hb3
        repeat (first | (with_reducible first | exact hblk.out | apply blk_drewN | apply blk_drew | apply blk_alloc) | refine blk_far ?_ (by show w.heap.size ≠ w2.heap.size; omega) _)
      case h4 =>
        refine ⟨rfl, ?_⟩
        repeat (first | (with_reducible first | exact hbel.out | apply below_alloc | apply pw_below_drewN | apply below_drew1) | refine below_set ?_ (by omega) | refine below_step ?_ hb3)
  · rintro e w' ⟨rfl, hb⟩
    exact ⟨_, rfl, Kd.Q_nil _ _ _ _ _, hb⟩
set_option maxRecDepth 100000 in
set_option maxHeartbeats 1600000 in
theorem rpar_err_n (s : ByteArray) (hs : s.size ≤ 1000000) (n : Nat) (hn : (wordsB s).length = n) (hn0 : 1 < n) (hn1 : n ≤ 1000001) (w : World) (e0 : ((wd (wordsB s) 0).toList == [115, 116, 97, 116, 115]) = false) (e1 : ((wd (wordsB s) 0).toList == [118, 101, 114, 115, 105, 111, 110]) = false) (e2 : ((wd (wordsB s) 0).toList == [113, 117, 105, 116]) = false) (e3 : ((wd (wordsB s) 0).toList == [103, 101, 116]) = false) (e4 : ((wd (wordsB s) 0).toList == [100, 101, 108, 101, 116, 101]) = false) (e5 : ((wd (wordsB s) 0).toList == [116, 111, 117, 99, 104]) = false) (e6 : ((wd (wordsB s) 0).toList == [115, 101, 116]) = false) (lb : Bool) (hl : ((wd (wordsB s) (n - 1)).toList == [110, 111, 114, 101, 112, 108, 121]) = lb) :
    Calls Tryd.prog 9 #[.string s] w (TellsC (badA errB (-1)) w.heap.size w) := by
  have CW := Lib.hid (fun w => refWords_c s hs n hn (by omega) w)
  have HS := Lib.hid (fun (x : ByteArray) (h : x ∈ wordsB s) => Nat.le_trans (words_size h) hs)
  have HN0 := Lib.hid hn0
  have v0 : IntKind.i64.wrap ((n : Int) - 1) = (n : Int) - 1 := IntWalk.i64_in _ ⟨by omega, by omega⟩
  have v1 : 0 ≤ (n : Int) - 1 := by omega
  have v2 : ((n : Int) - 1).toNat = n - 1 := by omega
  have v3 : decide ((1 : Int) < (n : Int)) = true := decide_eq_true (by omega)
  have v4 : 1 ≤ (n : Int) := by omega
  have v5 : ((n : Int) == 0) = false := beq_eq_false_iff_ne.2 (by omega)
  have v6 : (n : Int) - 1 < (n : Int) := by omega
  have CF := Lib.hid rbad_fmt
  have CE := Lib.hid rbad_err
  have HN := Lib.hid hn
  clear hn
  refine Calls.mono (R := fun e w' => e = .returned (.tuple #[.agg #[.int .i64 8, .slice none 0 0, .int .u32 0, .int .i64 0, .string ⟨#[]⟩, .bool false, .string errB], .int .i64 (-1)]) ∧ Below w.heap.size w w') ?_ ?_
  · go_enter Tryd.func9, Tryd.ntmps9
    go_wp2_with (first
      | (go_at_call 15; ((with_reducible refine (CW.out _).mono ?_); rintro e w1 ⟨g, cap, rfl, hcap, hg, hlt, hx, hR, hb1⟩; obtain ⟨hc9, hf9⟩ := bcell hb1; have hz9 := hb1.size; (simp at hz9 hg); have hz8 : w.heap.size < w1.heap.size := (by omega); clear hz9; have x0 := wd_cell hx.out 0 (by have := HN.out; have := HN0.out; omega); have x9 := wd_cell hx.out (n - 1) (by have := HN.out; have := HN0.out; omega); clear hx))
      | (go_at_call 16; (with_reducible refine (CF.out _).mono ?_); rintro e w2 ⟨rfl, hb2⟩; obtain ⟨hc7, hf7⟩ := bcell hb2; have hz7 := hb2.size; have hz6 : w.heap.size < w2.heap.size := (by omega); have hz5 : g < w2.heap.size := (by omega))
      | (go_at_call 16; (with_reducible refine (CE.out _).mono ?_); rintro e w3 ⟨rfl, hb3⟩; obtain ⟨hc6, hf6⟩ := bcell hb3; have hz4 := hb3.size; (simp at hz4)))
    all_goals
      clear hc9 hf9 hc7 hf7 hc6 hf6
      have hblk := Lib.hid (blk_below (blk_below (blk_new w (.cells #[.int .i64 0, .slice none 0 0, .int .u32 0, .int .i64 0, .string ⟨#[]⟩, .bool false, .string ⟨#[]⟩] 28)) hb1) hb2)
      have hbel := Lib.hid (below_step (below_step (below_alloc (Below.refl w.heap.size w) (.cells #[.int .i64 0, .slice none 0 0, .int .u32 0, .int .i64 0, .string ⟨#[]⟩, .bool false, .string ⟨#[]⟩] 28)) hb1) hb2)
      refine bodyPost_ret (results_ct (p := 2) (u := 3) (ty := 28) (fn := Tryd.f9) ?h0 _ _ w.heap.size 28 #[.int .i64 8, .slice none 0 0, .int .u32 0, .int .i64 0, .string ⟨#[]⟩, .bool false, .string errB] (0, 0) _ ?h1 ?h2 Tryd.underlying28 rfl (by kernel_rfl)) ?h3 ?h4
      case h0 => rfl
      case h1 => rfl
      case h3 => rfl
      case h2 =>
        repeat (with_reducible first | apply blk_drewN | apply blk_drew | apply blk_alloc)
        with_reducible refine put7 (c0 := .int .i64 0) (c1 := .slice none 0 0) (c2 := .int .u32 0) (c3 := .int .i64 0) (c4 := .string ⟨#[]⟩) (c5 := .bool false) (c6 := .string ⟨#[]⟩) ?_
        refine blk_below ?_ hb3
        repeat (first | (with_reducible first | exact hblk.out | apply blk_drewN | apply blk_drew | apply blk_alloc) | refine blk_far ?_ (by show w.heap.size ≠ w2.heap.size; omega) _)
      case h4 =>
        refine ⟨rfl, ?_⟩
        repeat (first | (with_reducible first | exact hbel.out | apply below_alloc | apply pw_below_drewN | apply below_drew1) | refine below_set ?_ (by omega) | refine below_step ?_ hb3)
  · rintro e w' ⟨rfl, hb⟩
    exact ⟨_, rfl, Kd.Q_nil _ _ _ _ _, hb⟩
set_option maxRecDepth 100000 in
set_option maxHeartbeats 1600000 in
theorem rpar_get_1 (s : ByteArray) (hs : s.size ≤ 1000000) (hn : (wordsB s).length = 1) (w : World) (e0 : ((wd (wordsB s) 0).toList == [115, 116, 97, 116, 115]) = false) (e1 : ((wd (wordsB s) 0).toList == [118, 101, 114, 115, 105, 111, 110]) = false) (e2 : ((wd (wordsB s) 0).toList == [113, 117, 105, 116]) = false) (e3 : ((wd (wordsB s) 0).toList == [103, 101, 116]) = true) :
    Calls Tryd.prog 9 #[.string s] w (TellsC (badA fmtB (-1)) w.heap.size w) := by
  have CW := Lib.hid (fun w => refWords_c s hs 1 hn (by omega) w)
  have HS := Lib.hid (fun (x : ByteArray) (h : x ∈ wordsB s) => Nat.le_trans (words_size h) hs)
  have CF := Lib.hid rbad_fmt
  have HN := Lib.hid hn
  clear hn
  refine Calls.mono (R := fun e w' => e = .returned (.tuple #[.agg #[.int .i64 8, .slice none 0 0, .int .u32 0, .int .i64 0, .string ⟨#[]⟩, .bool false, .string fmtB], .int .i64 (-1)]) ∧ Below w.heap.size w w') ?_ ?_
  · go_enter Tryd.func9, Tryd.ntmps9
    go_wp2_with (first
      | (go_at_call 15; ((with_reducible refine (CW.out _).mono ?_); rintro e w1 ⟨g, cap, rfl, hcap, hg, hlt, hx, hR, hb1⟩; obtain ⟨hc9, hf9⟩ := bcell hb1; have hz9 := hb1.size; (simp at hz9 hg); have hz8 : w.heap.size < w1.heap.size := (by omega); clear hz9; have x0 := wd_cell hx.out 0 (by have := HN.out; omega); clear hx))
      | (go_at_call 16; (with_reducible refine (CF.out _).mono ?_); rintro e w2 ⟨rfl, hb2⟩; obtain ⟨hc7, hf7⟩ := bcell hb2; have hz7 := hb2.size; have hz6 : w.heap.size < w2.heap.size := (by omega); have hz5 : g < w2.heap.size := (by omega)))
    all_goals
      clear hc9 hf9 hc7 hf7
      have hblk := Lib.hid (blk_below (blk_below (blk_new w (.cells #[.int .i64 0, .slice none 0 0, .int .u32 0, .int .i64 0, .string ⟨#[]⟩, .bool false, .string ⟨#[]⟩] 28)) hb1) hb2)
      have hbel := Lib.hid (below_step (below_step (below_alloc (Below.refl w.heap.size w) (.cells #[.int .i64 0, .slice none 0 0, .int .u32 0, .int .i64 0, .string ⟨#[]⟩, .bool false, .string ⟨#[]⟩] 28)) hb1) hb2)
      refine bodyPost_ret (results_ct (p := 2) (u := 3) (ty := 28) (fn := Tryd.f9) ?h0 _ _ w.heap.size 28 #[.int .i64 8, .slice none 0 0, .int .u32 0, .int .i64 0, .string ⟨#[]⟩, .bool false, .string fmtB] (0, 0) _ ?h1 ?h2 Tryd.underlying28 rfl (by kernel_rfl)) ?h3 ?h4
      case h0 => rfl
      case h1 => rfl
      case h3 => rfl
      case h2 =>
        repeat (with_reducible first | apply blk_drewN | apply blk_drew | apply blk_alloc)
        with_reducible refine put7 (c0 := .int .i64 0) (c1 := .slice none 0 0) (c2 := .int .u32 0) (c3 := .int .i64 0) (c4 := .string ⟨#[]⟩) (c5 := .bool false) (c6 := .string ⟨#[]⟩) ?_
        repeat (first | (with_reducible first | exact hblk.out | apply blk_drewN | apply blk_drew | apply blk_alloc) | refine blk_far ?_ (by show w.heap.size ≠ w2.heap.size; omega) _)
      case h4 =>
        refine ⟨rfl, ?_⟩
        repeat (first | (with_reducible first | exact hbel.out | apply below_alloc | apply pw_below_drewN | apply below_drew1) | refine below_set ?_ (by omega))
  · rintro e w' ⟨rfl, hb⟩
    exact ⟨_, rfl, Kd.Q_nil _ _ _ _ _, hb⟩
set_option maxRecDepth 100000 in
set_option maxHeartbeats 1600000 in
theorem rpar_get_big (s : ByteArray) (hs : s.size ≤ 1000000) (n : Nat) (hn : (wordsB s).length = n) (hn0 : 1 < n) (hn1 : n ≤ 1000001) (h17 : 17 < n) (w : World) (e0 : ((wd (wordsB s) 0).toList == [115, 116, 97, 116, 115]) = false) (e1 : ((wd (wordsB s) 0).toList == [118, 101, 114, 115, 105, 111, 110]) = false) (e2 : ((wd (wordsB s) 0).toList == [113, 117, 105, 116]) = false) (e3 : ((wd (wordsB s) 0).toList == [103, 101, 116]) = true) (lb : Bool) (hl : ((wd (wordsB s) (n - 1)).toList == [110, 111, 114, 101, 112, 108, 121]) = lb) :
    Calls Tryd.prog 9 #[.string s] w (TellsC (badA fmtB (-1)) w.heap.size w) := by
  have CW := Lib.hid (fun w => refWords_c s hs n hn (by omega) w)
  have HS := Lib.hid (fun (x : ByteArray) (h : x ∈ wordsB s) => Nat.le_trans (words_size h) hs)
  have t0 : decide ((17 : Int) < (n : Int)) = true := decide_eq_true (by omega)
  have t1 : decide ((n : Int) < 2) = false := decide_eq_false (by omega)
  have HN0 := Lib.hid hn0
  have v0 : IntKind.i64.wrap ((n : Int) - 1) = (n : Int) - 1 := IntWalk.i64_in _ ⟨by omega, by omega⟩
  have v1 : 0 ≤ (n : Int) - 1 := by omega
  have v2 : ((n : Int) - 1).toNat = n - 1 := by omega
  have v3 : decide ((1 : Int) < (n : Int)) = true := decide_eq_true (by omega)
  have v4 : 1 ≤ (n : Int) := by omega
  have v5 : ((n : Int) == 0) = false := beq_eq_false_iff_ne.2 (by omega)
  have v6 : (n : Int) - 1 < (n : Int) := by omega
  have CF := Lib.hid rbad_fmt
  have HN := Lib.hid hn
  clear hn h17
  refine Calls.mono (R := fun e w' => e = .returned (.tuple #[.agg #[.int .i64 8, .slice none 0 0, .int .u32 0, .int .i64 0, .string ⟨#[]⟩, .bool false, .string fmtB], .int .i64 (-1)]) ∧ Below w.heap.size w w') ?_ ?_
  · go_enter Tryd.func9, Tryd.ntmps9
    go_wp2_with (first
      | (go_at_call 15; ((with_reducible refine (CW.out _).mono ?_); rintro e w1 ⟨g, cap, rfl, hcap, hg, hlt, hx, hR, hb1⟩; obtain ⟨hc9, hf9⟩ := bcell hb1; have hz9 := hb1.size; (simp at hz9 hg); have hz8 : w.heap.size < w1.heap.size := (by omega); clear hz9; have x0 := wd_cell hx.out 0 (by have := HN.out; have := HN0.out; omega); have x9 := wd_cell hx.out (n - 1) (by have := HN.out; have := HN0.out; omega); clear hx))
      | (go_at_call 16; (with_reducible refine (CF.out _).mono ?_); rintro e w2 ⟨rfl, hb2⟩; obtain ⟨hc7, hf7⟩ := bcell hb2; have hz7 := hb2.size; have hz6 : w.heap.size < w2.heap.size := (by omega); have hz5 : g < w2.heap.size := (by omega)))
    all_goals
      clear hc9 hf9 hc7 hf7
      have hblk := Lib.hid (blk_below (blk_below (blk_new w (.cells #[.int .i64 0, .slice none 0 0, .int .u32 0, .int .i64 0, .string ⟨#[]⟩, .bool false, .string ⟨#[]⟩] 28)) hb1) hb2)
      have hbel := Lib.hid (below_step (below_step (below_alloc (Below.refl w.heap.size w) (.cells #[.int .i64 0, .slice none 0 0, .int .u32 0, .int .i64 0, .string ⟨#[]⟩, .bool false, .string ⟨#[]⟩] 28)) hb1) hb2)
      refine bodyPost_ret (results_ct (p := 2) (u := 3) (ty := 28) (fn := Tryd.f9) ?h0 _ _ w.heap.size 28 #[.int .i64 8, .slice none 0 0, .int .u32 0, .int .i64 0, .string ⟨#[]⟩, .bool false, .string fmtB] (0, 0) _ ?h1 ?h2 Tryd.underlying28 rfl (by kernel_rfl)) ?h3 ?h4
      case h0 => rfl
      case h1 => rfl
      case h3 => rfl
      case h2 =>
        repeat (with_reducible first | apply blk_drewN | apply blk_drew | apply blk_alloc)
        with_reducible refine put7 (c0 := .int .i64 0) (c1 := .slice none 0 0) (c2 := .int .u32 0) (c3 := .int .i64 0) (c4 := .string ⟨#[]⟩) (c5 := .bool false) (c6 := .string ⟨#[]⟩) ?_
        repeat (first | (with_reducible first | exact hblk.out | apply blk_drewN | apply blk_drew | apply blk_alloc) | refine blk_far ?_ (by show w.heap.size ≠ w2.heap.size; omega) _)
      case h4 =>
        refine ⟨rfl, ?_⟩
        repeat (first | (with_reducible first | exact hbel.out | apply below_alloc | apply pw_below_drewN | apply below_drew1) | refine below_set ?_ (by omega))
  · rintro e w' ⟨rfl, hb⟩
    exact ⟨_, rfl, Kd.Q_nil _ _ _ _ _, hb⟩
end Go.Proofs.YthinmioognadpaaDoor.Cmd

/- The ways through tattlerref07.Parse (printed by wip/tools/gen_refparse.py, a program of this session). -/
namespace Go.Proofs.YthinmioognadpaaDoor.Cmd
open Go.RowKit Go.Proofs.YthinmioognadpaaDoorW.PrintWords Go.Proofs.YthinmioognadpaaDoorW.PrintLast Go.Proofs.YthinmioognadpaaDoorW.PrintMore Go.Proofs.YthinmioognadpaaDoor.PCmd Go.Proofs.YthinmioognadpaaDoor.Split
set_option linter.unusedVariables false
set_option linter.unusedSimpArgs false
set_option maxRecDepth 100000 in
set_option maxHeartbeats 1600000 in
theorem rpar_set (s : ByteArray) (hs : s.size ≤ 1000000) (n : Nat) (hn : (wordsB s).length = n) (hn0 : 1 < n) (hn1 : n ≤ 1000001) (w : World) (e0 : ((wd (wordsB s) 0).toList == [115, 116, 97, 116, 115]) = false) (e1 : ((wd (wordsB s) 0).toList == [118, 101, 114, 115, 105, 111, 110]) = false) (e2 : ((wd (wordsB s) 0).toList == [113, 117, 105, 116]) = false) (e3 : ((wd (wordsB s) 0).toList == [103, 101, 116]) = false) (e4 : ((wd (wordsB s) 0).toList == [100, 101, 108, 101, 116, 101]) = false) (e5 : ((wd (wordsB s) 0).toList == [116, 111, 117, 99, 104]) = false) (e6 : ((wd (wordsB s) 0).toList == [115, 101, 116]) = true) (lb : Bool) (hl : ((wd (wordsB s) (n - 1)).toList == [110, 111, 114, 101, 112, 108, 121]) = lb) (hset : n = 6 → lb = decide (wd (wordsB s) 5 = noreplyB)) :
    Calls Tryd.prog 9 #[.string s] w (TellsC (setP (wordsB s)) w.heap.size w) := by
  have CW := Lib.hid (fun w => refWords_c s hs n hn (by omega) w)
  have HS := Lib.hid (fun (x : ByteArray) (h : x ∈ wordsB s) => Nat.le_trans (words_size h) hs)
  have HN0 := Lib.hid hn0
  have v0 : IntKind.i64.wrap ((n : Int) - 1) = (n : Int) - 1 := IntWalk.i64_in _ ⟨by omega, by omega⟩
  have v1 : 0 ≤ (n : Int) - 1 := by omega
  have v2 : ((n : Int) - 1).toNat = n - 1 := by omega
  have v3 : decide ((1 : Int) < (n : Int)) = true := decide_eq_true (by omega)
  have v4 : 1 ≤ (n : Int) := by omega
  have v5 : ((n : Int) == 0) = false := beq_eq_false_iff_ne.2 (by omega)
  have v6 : (n : Int) - 1 < (n : Int) := by omega
  have CF := Lib.hid rbad_fmt
  have HN := Lib.hid hn
  have CS := Lib.hid (fun (A : Option Addr) (c : Nat) (W : World) hC hc => rset_c (wordsB s) n hn lb hset HS.out A c W hC hc)
  clear hset
  clear hn
  refine Calls.mono (R := fun e w' => ∃ v, e = .returned (.tuple #[.agg #[.int .i64 (setP (wordsB s)).1, v, .int .u32 (setP (wordsB s)).2.2.1, .int .i64 (setP (wordsB s)).2.2.2.1, .string (setP (wordsB s)).2.2.2.2.1, .bool (setP (wordsB s)).2.2.2.2.2.1, .string (setP (wordsB s)).2.2.2.2.2.2.1], .int .i64 (setP (wordsB s)).2.2.2.2.2.2.2]) ∧ Kd.Q Kd.string 9 w' w.heap.size (fun _ => True) v (setP (wordsB s)).2.1 ∧ Below w.heap.size w w') ?_ ?_
  · go_enter Tryd.func9, Tryd.ntmps9
    go_wp2_with (first
      | (go_at_call 15; ((with_reducible refine (CW.out _).mono ?_); rintro e w1 ⟨g, cap, rfl, hcap, hg, hlt, hx, hR, hb1⟩; obtain ⟨hc9, hf9⟩ := bcell hb1; have hz9 := hb1.size; (simp at hz9 hg); have hz8 : w.heap.size < w1.heap.size := (by omega); clear hz9; have x0 := wd_cell hx.out 0 (by have := HN.out; have := HN0.out; omega); have x9 := wd_cell hx.out (n - 1) (by have := HN.out; have := HN0.out; omega); clear hx))
      | (go_at_call 16; (with_reducible refine (CF.out _).mono ?_); rintro e w2 ⟨rfl, hb2⟩; obtain ⟨hc7, hf7⟩ := bcell hb2; have hz7 := hb2.size; have hz6 : w.heap.size < w2.heap.size := (by omega); have hz5 : g < w2.heap.size := (by omega))
      | (go_at_call 19; refine (CS.out _ _ _ (Kd.C_below (w := w1) (show Kd.C Kd.string w1 (some ⟨g, 0, none⟩) n (wordsB s) from (by have := (Kd.R_reads' hR.out).2.2; rw [HN.out] at this; exact this)) (by repeat (first | (with_reducible first | exact Below.refl _ _ | apply below_alloc | apply pw_below_drewN | apply below_drew1) | refine below_step ?_ hb2))) hcap).mono ?_; rintro e w3 ⟨v, rfl, hQ, hb3⟩; obtain ⟨A9, c9, rfl, hlc9⟩ := Kd.Q_slice hQ; obtain ⟨hc6, hf6⟩ := bcell hb3; have hz4 := hb3.size; (simp at hz4)))
    all_goals
      clear hc9 hf9 hc7 hf7 hc6 hf6
      have hblk := Lib.hid (blk_below (blk_below (blk_new w (.cells #[.int .i64 0, .slice none 0 0, .int .u32 0, .int .i64 0, .string ⟨#[]⟩, .bool false, .string ⟨#[]⟩] 28)) hb1) hb2)
      have hbel := Lib.hid (below_step (below_step (below_alloc (Below.refl w.heap.size w) (.cells #[.int .i64 0, .slice none 0 0, .int .u32 0, .int .i64 0, .string ⟨#[]⟩, .bool false, .string ⟨#[]⟩] 28)) hb1) hb2)
      refine bodyPost_ret (results_ct (p := 2) (u := 3) (ty := 28) (fn := Tryd.f9) ?h0 _ _ w.heap.size 28 #[.int .i64 (setP (wordsB s)).1, .slice A9 (setP (wordsB s)).2.1.length c9, .int .u32 (setP (wordsB s)).2.2.1, .int .i64 (setP (wordsB s)).2.2.2.1, .string (setP (wordsB s)).2.2.2.2.1, .bool (setP (wordsB s)).2.2.2.2.2.1, .string (setP (wordsB s)).2.2.2.2.2.2.1] (0, 0) _ ?h1 ?h2 Tryd.underlying28 rfl (by kernel_rfl)) ?h3 ?h4
      case h0 => rfl
      case h1 => rfl
      case h3 => rfl
      case h2 =>
        repeat (with_reducible first | apply blk_drewN | apply blk_drew | apply blk_alloc)
        with_reducible refine put7 (c0 := .int .i64 0) (c1 := .slice none 0 0) (c2 := .int .u32 0) (c3 := .int .i64 0) (c4 := .string ⟨#[]⟩) (c5 := .bool false) (c6 := .string ⟨#[]⟩) ?_
        refine blk_below ?_ hb3
        repeat (first | (with_reducible first | exact hblk.out | apply blk_drewN | apply blk_drew | apply blk_alloc) | refine blk_far ?_ (by show w.heap.size ≠ w2.heap.size; omega) _)
      case h4 =>
        refine ⟨_, rfl, Q_same hQ (by repeat (first | (with_reducible first | exact same_refl _ _ | apply same_drewN | apply same_drew | apply same_alloc) | refine same_set ?_ _ (by first | (simp; done) | (simp; omega) | omega))) (by simp; omega), ?_⟩
        repeat (first | (with_reducible first | exact hbel.out | apply below_alloc | apply pw_below_drewN | apply below_drew1) | refine below_set ?_ (by omega) | refine below_step ?_ hb3)
  · rintro e w' ⟨v, rfl, hQ, hb⟩
    exact ⟨_, rfl, hQ, hb⟩
set_option maxRecDepth 100000 in
set_option maxHeartbeats 1600000 in
theorem rpar_set_1 (s : ByteArray) (hs : s.size ≤ 1000000) (hn : (wordsB s).length = 1) (w : World) (e0 : ((wd (wordsB s) 0).toList == [115, 116, 97, 116, 115]) = false) (e1 : ((wd (wordsB s) 0).toList == [118, 101, 114, 115, 105, 111, 110]) = false) (e2 : ((wd (wordsB s) 0).toList == [113, 117, 105, 116]) = false) (e3 : ((wd (wordsB s) 0).toList == [103, 101, 116]) = false) (e4 : ((wd (wordsB s) 0).toList == [100, 101, 108, 101, 116, 101]) = false) (e5 : ((wd (wordsB s) 0).toList == [116, 111, 117, 99, 104]) = false) (e6 : ((wd (wordsB s) 0).toList == [115, 101, 116]) = true) :
    Calls Tryd.prog 9 #[.string s] w (TellsC (setP (wordsB s)) w.heap.size w) := by
  have CW := Lib.hid (fun w => refWords_c s hs 1 hn (by omega) w)
  have HS := Lib.hid (fun (x : ByteArray) (h : x ∈ wordsB s) => Nat.le_trans (words_size h) hs)
  have CF := Lib.hid rbad_fmt
  have HN := Lib.hid hn
  have CS := Lib.hid (fun (A : Option Addr) (c : Nat) (W : World) hC hc => rset_c (wordsB s) 1 hn false (by omega) HS.out A c W hC hc)
  clear hn
  refine Calls.mono (R := fun e w' => ∃ v, e = .returned (.tuple #[.agg #[.int .i64 (setP (wordsB s)).1, v, .int .u32 (setP (wordsB s)).2.2.1, .int .i64 (setP (wordsB s)).2.2.2.1, .string (setP (wordsB s)).2.2.2.2.1, .bool (setP (wordsB s)).2.2.2.2.2.1, .string (setP (wordsB s)).2.2.2.2.2.2.1], .int .i64 (setP (wordsB s)).2.2.2.2.2.2.2]) ∧ Kd.Q Kd.string 9 w' w.heap.size (fun _ => True) v (setP (wordsB s)).2.1 ∧ Below w.heap.size w w') ?_ ?_
  · go_enter Tryd.func9, Tryd.ntmps9
    go_wp2_with (first
      | (go_at_call 15; ((with_reducible refine (CW.out _).mono ?_); rintro e w1 ⟨g, cap, rfl, hcap, hg, hlt, hx, hR, hb1⟩; obtain ⟨hc9, hf9⟩ := bcell hb1; have hz9 := hb1.size; (simp at hz9 hg); have hz8 : w.heap.size < w1.heap.size := (by omega); clear hz9; have x0 := wd_cell hx.out 0 (by have := HN.out; omega); clear hx))
      | (go_at_call 16; (with_reducible refine (CF.out _).mono ?_); rintro e w2 ⟨rfl, hb2⟩; obtain ⟨hc7, hf7⟩ := bcell hb2; have hz7 := hb2.size; have hz6 : w.heap.size < w2.heap.size := (by omega); have hz5 : g < w2.heap.size := (by omega))
      | (go_at_call 19; refine (CS.out _ _ _ (Kd.C_below (w := w1) (show Kd.C Kd.string w1 (some ⟨g, 0, none⟩) 1 (wordsB s) from (by have := (Kd.R_reads' hR.out).2.2; rw [HN.out] at this; exact this)) (by repeat (first | (with_reducible first | exact Below.refl _ _ | apply below_alloc | apply pw_below_drewN | apply below_drew1) | refine below_step ?_ hb2))) hcap).mono ?_; rintro e w3 ⟨v, rfl, hQ, hb3⟩; obtain ⟨A9, c9, rfl, hlc9⟩ := Kd.Q_slice hQ; obtain ⟨hc6, hf6⟩ := bcell hb3; have hz4 := hb3.size; (simp at hz4)))
    all_goals
      clear hc9 hf9 hc7 hf7 hc6 hf6
      have hblk := Lib.hid (blk_below (blk_below (blk_new w (.cells #[.int .i64 0, .slice none 0 0, .int .u32 0, .int .i64 0, .string ⟨#[]⟩, .bool false, .string ⟨#[]⟩] 28)) hb1) hb2)
      have hbel := Lib.hid (below_step (below_step (below_alloc (Below.refl w.heap.size w) (.cells #[.int .i64 0, .slice none 0 0, .int .u32 0, .int .i64 0, .string ⟨#[]⟩, .bool false, .string ⟨#[]⟩] 28)) hb1) hb2)
      refine bodyPost_ret (results_ct (p := 2) (u := 3) (ty := 28) (fn := Tryd.f9) ?h0 _ _ w.heap.size 28 #[.int .i64 (setP (wordsB s)).1, .slice A9 (setP (wordsB s)).2.1.length c9, .int .u32 (setP (wordsB s)).2.2.1, .int .i64 (setP (wordsB s)).2.2.2.1, .string (setP (wordsB s)).2.2.2.2.1, .bool (setP (wordsB s)).2.2.2.2.2.1, .string (setP (wordsB s)).2.2.2.2.2.2.1] (0, 0) _ ?h1 ?h2 Tryd.underlying28 rfl (by kernel_rfl)) ?h3 ?h4
      case h0 => rfl
      case h1 => rfl
      case h3 => rfl
      case h2 =>
        repeat (with_reducible first | apply blk_drewN | apply blk_drew | apply blk_alloc)
        with_reducible refine put7 (c0 := .int .i64 0) (c1 := .slice none 0 0) (c2 := .int .u32 0) (c3 := .int .i64 0) (c4 := .string ⟨#[]⟩) (c5 := .bool false) (c6 := .string ⟨#[]⟩) ?_
        refine blk_below ?_ hb3
        repeat (first | (with_reducible first | exact hblk.out | apply blk_drewN | apply blk_drew | apply blk_alloc) | refine blk_far ?_ (by show w.heap.size ≠ w2.heap.size; omega) _)
      case h4 =>
        refine ⟨_, rfl, Q_same hQ (by repeat (first | (with_reducible first | exact same_refl _ _ | apply same_drewN | apply same_drew | apply same_alloc) | refine same_set ?_ _ (by first | (simp; done) | (simp; omega) | omega))) (by simp; omega), ?_⟩
        repeat (first | (with_reducible first | exact hbel.out | apply below_alloc | apply pw_below_drewN | apply below_drew1) | refine below_set ?_ (by omega) | refine below_step ?_ hb3)
  · rintro e w' ⟨v, rfl, hQ, hb⟩
    exact ⟨_, rfl, hQ, hb⟩
end Go.Proofs.YthinmioognadpaaDoor.Cmd

/- The ways through tattlerref07.Parse (printed by wip/tools/gen_refparse.py, a program of this session). -/
namespace Go.Proofs.YthinmioognadpaaDoor.Cmd
open Go.RowKit Go.Proofs.YthinmioognadpaaDoorW.PrintWords Go.Proofs.YthinmioognadpaaDoorW.PrintLast Go.Proofs.YthinmioognadpaaDoorW.PrintMore Go.Proofs.YthinmioognadpaaDoor.PCmd Go.Proofs.YthinmioognadpaaDoor.Split
set_option linter.unusedVariables false
set_option linter.unusedSimpArgs false
set_option maxRecDepth 100000 in
set_option maxHeartbeats 1600000 in
theorem rpar_delete_1 (s : ByteArray) (hs : s.size ≤ 1000000) (hn : (wordsB s).length = 1) (w : World) (e0 : ((wd (wordsB s) 0).toList == [115, 116, 97, 116, 115]) = false) (e1 : ((wd (wordsB s) 0).toList == [118, 101, 114, 115, 105, 111, 110]) = false) (e2 : ((wd (wordsB s) 0).toList == [113, 117, 105, 116]) = false) (e3 : ((wd (wordsB s) 0).toList == [103, 101, 116]) = false) (e4 : ((wd (wordsB s) 0).toList == [100, 101, 108, 101, 116, 101]) = true) :
    Calls Tryd.prog 9 #[.string s] w (TellsC (badA fmtB (-1)) w.heap.size w) := by
  have CW := Lib.hid (fun w => refWords_c s hs 1 hn (by omega) w)
  have HS := Lib.hid (fun (x : ByteArray) (h : x ∈ wordsB s) => Nat.le_trans (words_size h) hs)
  have CF := Lib.hid rbad_fmt
  have HN := Lib.hid hn
  clear hn
  refine Calls.mono (R := fun e w' => e = .returned (.tuple #[.agg #[.int .i64 8, .slice none 0 0, .int .u32 0, .int .i64 0, .string ⟨#[]⟩, .bool false, .string fmtB], .int .i64 (-1)]) ∧ Below w.heap.size w w') ?_ ?_
  · go_enter Tryd.func9, Tryd.ntmps9
    go_wp2_with (first
      | (go_at_call 15; ((with_reducible refine (CW.out _).mono ?_); rintro e w1 ⟨g, cap, rfl, hcap, hg, hlt, hx, hR, hb1⟩; obtain ⟨hc9, hf9⟩ := bcell hb1; have hz9 := hb1.size; (simp at hz9 hg); have hz8 : w.heap.size < w1.heap.size := (by omega); clear hz9; have x0 := wd_cell hx.out 0 (by have := HN.out; omega); clear hx))
      | (go_at_call 16; (with_reducible refine (CF.out _).mono ?_); rintro e w2 ⟨rfl, hb2⟩; obtain ⟨hc7, hf7⟩ := bcell hb2; have hz7 := hb2.size; have hz6 : w.heap.size < w2.heap.size := (by omega); have hz5 : g < w2.heap.size := (by omega)))
    all_goals
      clear hc9 hf9 hc7 hf7
      have hblk := Lib.hid (blk_below (blk_below (blk_new w (.cells #[.int .i64 0, .slice none 0 0, .int .u32 0, .int .i64 0, .string ⟨#[]⟩, .bool false, .string ⟨#[]⟩] 28)) hb1) hb2)
      have hbel := Lib.hid (below_step (below_step (below_alloc (Below.refl w.heap.size w) (.cells #[.int .i64 0, .slice none 0 0, .int .u32 0, .int .i64 0, .string ⟨#[]⟩, .bool false, .string ⟨#[]⟩] 28)) hb1) hb2)
      refine bodyPost_ret (results_ct (p := 2) (u := 3) (ty := 28) (fn := Tryd.f9) ?h0 _ _ w.heap.size 28 #[.int .i64 8, .slice none 0 0, .int .u32 0, .int .i64 0, .string ⟨#[]⟩, .bool false, .string fmtB] (0, 0) _ ?h1 ?h2 Tryd.underlying28 rfl (by kernel_rfl)) ?h3 ?h4
      case h0 => rfl
      case h1 => rfl
      case h3 => rfl
      case h2 =>
        repeat (with_reducible first | apply blk_drewN | apply blk_drew | apply blk_alloc)
        with_reducible refine put7 (c0 := .int .i64 0) (c1 := .slice none 0 0) (c2 := .int .u32 0) (c3 := .int .i64 0) (c4 := .string ⟨#[]⟩) (c5 := .bool false) (c6 := .string ⟨#[]⟩) ?_
        repeat (first | (with_reducible first | exact hblk.out | apply blk_drewN | apply blk_drew | apply blk_alloc) | refine blk_far ?_ (by show w.heap.size ≠ w2.heap.size; omega) _)
      case h4 =>
        refine ⟨rfl, ?_⟩
        repeat (first | (with_reducible first | exact hbel.out | apply below_alloc | apply pw_below_drewN | apply below_drew1) | refine below_set ?_ (by omega))
  · rintro e w' ⟨rfl, hb⟩
    exact ⟨_, rfl, Kd.Q_nil _ _ _ _ _, hb⟩
set_option maxRecDepth 100000 in
set_option maxHeartbeats 1600000 in
theorem rpar_delete_n (s : ByteArray) (hs : s.size ≤ 1000000) (n : Nat) (hn : (wordsB s).length = n) (hn0 : 1 < n) (hn1 : n ≤ 1000001) (h2 : n ≠ 2) (h3 : n ≠ 3) (w : World) (e0 : ((wd (wordsB s) 0).toList == [115, 116, 97, 116, 115]) = false) (e1 : ((wd (wordsB s) 0).toList == [118, 101, 114, 115, 105, 111, 110]) = false) (e2 : ((wd (wordsB s) 0).toList == [113, 117, 105, 116]) = false) (e3 : ((wd (wordsB s) 0).toList == [103, 101, 116]) = false) (e4 : ((wd (wordsB s) 0).toList == [100, 101, 108, 101, 116, 101]) = true) (lb : Bool) (hl : ((wd (wordsB s) (n - 1)).toList == [110, 111, 114, 101, 112, 108, 121]) = lb) :
    Calls Tryd.prog 9 #[.string s] w (TellsC (badA fmtB (-1)) w.heap.size w) := by
  have CW := Lib.hid (fun w => refWords_c s hs n hn (by omega) w)
  have HS := Lib.hid (fun (x : ByteArray) (h : x ∈ wordsB s) => Nat.le_trans (words_size h) hs)
  have t0 : ¬ ((n : Int) = 2) := by omega
  have t1 : ¬ ((n : Int) = 3) := by omega
  have HN0 := Lib.hid hn0
  have v0 : IntKind.i64.wrap ((n : Int) - 1) = (n : Int) - 1 := IntWalk.i64_in _ ⟨by omega, by omega⟩
  have v1 : 0 ≤ (n : Int) - 1 := by omega
  have v2 : ((n : Int) - 1).toNat = n - 1 := by omega
  have v3 : decide ((1 : Int) < (n : Int)) = true := decide_eq_true (by omega)
  have v4 : 1 ≤ (n : Int) := by omega
  have v5 : ((n : Int) == 0) = false := beq_eq_false_iff_ne.2 (by omega)
  have v6 : (n : Int) - 1 < (n : Int) := by omega
  have CF := Lib.hid rbad_fmt
  have HN := Lib.hid hn
  clear hn h2 h3
  refine Calls.mono (R := fun e w' => e = .returned (.tuple #[.agg #[.int .i64 8, .slice none 0 0, .int .u32 0, .int .i64 0, .string ⟨#[]⟩, .bool false, .string fmtB], .int .i64 (-1)]) ∧ Below w.heap.size w w') ?_ ?_
  · go_enter Tryd.func9, Tryd.ntmps9
    go_wp2_with (first
      | (go_at_call 15; ((with_reducible refine (CW.out _).mono ?_); rintro e w1 ⟨g, cap, rfl, hcap, hg, hlt, hx, hR, hb1⟩; obtain ⟨hc9, hf9⟩ := bcell hb1; have hz9 := hb1.size; (simp at hz9 hg); have hz8 : w.heap.size < w1.heap.size := (by omega); clear hz9; have x0 := wd_cell hx.out 0 (by have := HN.out; have := HN0.out; omega); have x9 := wd_cell hx.out (n - 1) (by have := HN.out; have := HN0.out; omega); clear hx))
      | (go_at_call 16; (with_reducible refine (CF.out _).mono ?_); rintro e w2 ⟨rfl, hb2⟩; obtain ⟨hc7, hf7⟩ := bcell hb2; have hz7 := hb2.size; have hz6 : w.heap.size < w2.heap.size := (by omega); have hz5 : g < w2.heap.size := (by omega)))
    all_goals
      clear hc9 hf9 hc7 hf7
      have hblk := Lib.hid (blk_below (blk_below (blk_new w (.cells #[.int .i64 0, .slice none 0 0, .int .u32 0, .int .i64 0, .string ⟨#[]⟩, .bool false, .string ⟨#[]⟩] 28)) hb1) hb2)
      have hbel := Lib.hid (below_step (below_step (below_alloc (Below.refl w.heap.size w) (.cells #[.int .i64 0, .slice none 0 0, .int .u32 0, .int .i64 0, .string ⟨#[]⟩, .bool false, .string ⟨#[]⟩] 28)) hb1) hb2)
      refine bodyPost_ret (results_ct (p := 2) (u := 3) (ty := 28) (fn := Tryd.f9) ?h0 _ _ w.heap.size 28 #[.int .i64 8, .slice none 0 0, .int .u32 0, .int .i64 0, .string ⟨#[]⟩, .bool false, .string fmtB] (0, 0) _ ?h1 ?h2 Tryd.underlying28 rfl (by kernel_rfl)) ?h3 ?h4
      case h0 => rfl
      case h1 => rfl
      case h3 => rfl
      case h2 =>
        repeat (with_reducible first | apply blk_drewN | apply blk_drew | apply blk_alloc)
        with_reducible refine put7 (c0 := .int .i64 0) (c1 := .slice none 0 0) (c2 := .int .u32 0) (c3 := .int .i64 0) (c4 := .string ⟨#[]⟩) (c5 := .bool false) (c6 := .string ⟨#[]⟩) ?_
        repeat (first | (with_reducible first | exact hblk.out | apply blk_drewN | apply blk_drew | apply blk_alloc) | refine blk_far ?_ (by show w.heap.size ≠ w2.heap.size; omega) _)
      case h4 =>
        refine ⟨rfl, ?_⟩
        repeat (first | (with_reducible first | exact hbel.out | apply below_alloc | apply pw_below_drewN | apply below_drew1) | refine below_set ?_ (by omega))
  · rintro e w' ⟨rfl, hb⟩
    exact ⟨_, rfl, Kd.Q_nil _ _ _ _ _, hb⟩
set_option maxRecDepth 100000 in
set_option maxHeartbeats 1600000 in
theorem rpar_delete_no_k (s : ByteArray) (hs : s.size ≤ 1000000) (hn : (wordsB s).length = 2) (w : World) (e0 : ((wd (wordsB s) 0).toList == [115, 116, 97, 116, 115]) = false) (e1 : ((wd (wordsB s) 0).toList == [118, 101, 114, 115, 105, 111, 110]) = false) (e2 : ((wd (wordsB s) 0).toList == [113, 117, 105, 116]) = false) (e3 : ((wd (wordsB s) 0).toList == [103, 101, 116]) = false) (e4 : ((wd (wordsB s) 0).toList == [100, 101, 108, 101, 116, 101]) = true) (lb : Bool) (hl : ((wd (wordsB s) (1)).toList == [110, 111, 114, 101, 112, 108, 121]) = lb) (hko : keyP (wd (wordsB s) 1) = false) :
    Calls Tryd.prog 9 #[.string s] w (TellsC (badA fmtB (-1)) w.heap.size w) := by
  have CW := Lib.hid (fun w => refWords_c s hs 2 hn (by omega) w)
  have HS := Lib.hid (fun (x : ByteArray) (h : x ∈ wordsB s) => Nat.le_trans (words_size h) hs)
  have CF := Lib.hid rbad_fmt
  have CK := Lib.hid (fun w => rkey_c (wd (wordsB s) 1) w)
  rw [hko] at CK
  clear hko
  have HN := Lib.hid hn
  clear hn
  refine Calls.mono (R := fun e w' => e = .returned (.tuple #[.agg #[.int .i64 8, .slice none 0 0, .int .u32 0, .int .i64 0, .string ⟨#[]⟩, .bool false, .string fmtB], .int .i64 (-1)]) ∧ Below w.heap.size w w') ?_ ?_
  · go_enter Tryd.func9, Tryd.ntmps9
    go_wp2_with (first
      | (go_at_call 15; ((with_reducible refine (CW.out _).mono ?_); rintro e w1 ⟨g, cap, rfl, hcap, hg, hlt, hx, hR, hb1⟩; obtain ⟨hc9, hf9⟩ := bcell hb1; have hz9 := hb1.size; (simp at hz9 hg); have hz8 : w.heap.size < w1.heap.size := (by omega); clear hz9; have x0 := wd_cell hx.out 0 (by have := HN.out; omega); have x1 := wd_cell hx.out 1 (by have := HN.out; omega); clear hx))
      | (go_at_call 16; (with_reducible refine (CF.out _).mono ?_); rintro e w2 ⟨rfl, hb2⟩; obtain ⟨hc7, hf7⟩ := bcell hb2; have hz7 := hb2.size; have hz6 : w.heap.size < w2.heap.size := (by omega); have hz5 : g < w2.heap.size := (by omega))
      | (go_at_call 17; (with_reducible refine (CK.out _).mono ?_); rintro e w' ⟨rfl, ⟨nd, rfl⟩⟩))
    all_goals
      clear hc9 hf9 hc7 hf7
      have hblk := Lib.hid (blk_below (blk_below (blk_new w (.cells #[.int .i64 0, .slice none 0 0, .int .u32 0, .int .i64 0, .string ⟨#[]⟩, .bool false, .string ⟨#[]⟩] 28)) hb1) hb2)
      have hbel := Lib.hid (below_step (below_step (below_alloc (Below.refl w.heap.size w) (.cells #[.int .i64 0, .slice none 0 0, .int .u32 0, .int .i64 0, .string ⟨#[]⟩, .bool false, .string ⟨#[]⟩] 28)) hb1) hb2)
      refine bodyPost_ret (results_ct (p := 2) (u := 3) (ty := 28) (fn := Tryd.f9) ?h0 _ _ w.heap.size 28 #[.int .i64 8, .slice none 0 0, .int .u32 0, .int .i64 0, .string ⟨#[]⟩, .bool false, .string fmtB] (0, 0) _ ?h1 ?h2 Tryd.underlying28 rfl (by kernel_rfl)) ?h3 ?h4
      case h0 => rfl
      case h1 => rfl
      case h3 => rfl
      case h2 =>
        repeat (with_reducible first | apply blk_drewN | apply blk_drew | apply blk_alloc)
        with_reducible refine put7 (c0 := .int .i64 0) (c1 := .slice none 0 0) (c2 := .int .u32 0) (c3 := .int .i64 0) (c4 := .string ⟨#[]⟩) (c5 := .bool false) (c6 := .string ⟨#[]⟩) ?_
        repeat (first | (with_reducible first | exact hblk.out | apply blk_drewN | apply blk_drew | apply blk_alloc) | refine blk_far ?_ (by show w.heap.size ≠ w2.heap.size; omega) _)
      case h4 =>
        refine ⟨rfl, ?_⟩
        repeat (first | (with_reducible first | exact hbel.out | apply below_alloc | apply pw_below_drewN | apply below_drew1) | refine below_set ?_ (by omega))
  · rintro e w' ⟨rfl, hb⟩
    exact ⟨_, rfl, Kd.Q_nil _ _ _ _ _, hb⟩
set_option maxRecDepth 100000 in
set_option maxHeartbeats 1600000 in
theorem rpar_delete_no (s : ByteArray) (hs : s.size ≤ 1000000) (hn : (wordsB s).length = 2) (w : World) (e0 : ((wd (wordsB s) 0).toList == [115, 116, 97, 116, 115]) = false) (e1 : ((wd (wordsB s) 0).toList == [118, 101, 114, 115, 105, 111, 110]) = false) (e2 : ((wd (wordsB s) 0).toList == [113, 117, 105, 116]) = false) (e3 : ((wd (wordsB s) 0).toList == [103, 101, 116]) = false) (e4 : ((wd (wordsB s) 0).toList == [100, 101, 108, 101, 116, 101]) = true) (lb : Bool) (hl : ((wd (wordsB s) (1)).toList == [110, 111, 114, 101, 112, 108, 121]) = lb) (hko : keyP (wd (wordsB s) 1) = true) :
    Calls Tryd.prog 9 #[.string s] w (TellsC (3, [wd (wordsB s) 1], 0, 0, ⟨#[]⟩, false, ⟨#[]⟩, -1) w.heap.size w) := by
  have CW := Lib.hid (fun w => refWords_c s hs 2 hn (by omega) w)
  have HS := Lib.hid (fun (x : ByteArray) (h : x ∈ wordsB s) => Nat.le_trans (words_size h) hs)
  have CF := Lib.hid rbad_fmt
  have CK := Lib.hid (fun w => rkey_c (wd (wordsB s) 1) w)
  rw [hko] at CK
  clear hko
  have HN := Lib.hid hn
  clear hn
  refine Calls.mono (R := fun e w' => ∃ v, e = .returned (.tuple #[.agg #[.int .i64 3, v, .int .u32 0, .int .i64 0, .string ⟨#[]⟩, .bool false, .string ⟨#[]⟩], .int .i64 (-1)]) ∧ Kd.Q Kd.string 9 w' w.heap.size (fun _ => True) v [wd (wordsB s) 1] ∧ Below w.heap.size w w') ?_ ?_
  · go_enter Tryd.func9, Tryd.ntmps9
    go_wp2_with (first
      | (go_at_call 15; ((with_reducible refine (CW.out _).mono ?_); rintro e w1 ⟨g, cap, rfl, hcap, hg, hlt, hx, hR, hb1⟩; obtain ⟨hc9, hf9⟩ := bcell hb1; have hz9 := hb1.size; (simp at hz9 hg); have hz8 : w.heap.size < w1.heap.size := (by omega); clear hz9; have x0 := wd_cell hx.out 0 (by have := HN.out; omega); have x1 := wd_cell hx.out 1 (by have := HN.out; omega); clear hx))
      | (go_at_call 16; (with_reducible refine (CF.out _).mono ?_); rintro e w2 ⟨rfl, hb2⟩; obtain ⟨hc7, hf7⟩ := bcell hb2; have hz7 := hb2.size; have hz6 : w.heap.size < w2.heap.size := (by omega); have hz5 : g < w2.heap.size := (by omega))
      | (go_at_call 17; (with_reducible refine (CK.out _).mono ?_); rintro e w' ⟨rfl, ⟨nd, rfl⟩⟩))
    all_goals
      clear hc9 hf9 hc7 hf7
      have hblk := Lib.hid (blk_below (blk_below (blk_new w (.cells #[.int .i64 0, .slice none 0 0, .int .u32 0, .int .i64 0, .string ⟨#[]⟩, .bool false, .string ⟨#[]⟩] 28)) hb1) hb2)
      have hbel := Lib.hid (below_step (below_step (below_alloc (Below.refl w.heap.size w) (.cells #[.int .i64 0, .slice none 0 0, .int .u32 0, .int .i64 0, .string ⟨#[]⟩, .bool false, .string ⟨#[]⟩] 28)) hb1) hb2)
      refine bodyPost_ret (results_ct (p := 2) (u := 3) (ty := 28) (fn := Tryd.f9) ?h0 _ _ w.heap.size 28 #[.int .i64 3, (.slice (some ⟨w2.heap.size + 1, 0, none⟩) 1 1), .int .u32 0, .int .i64 0, .string ⟨#[]⟩, .bool false, .string ⟨#[]⟩] (0, 0) _ ?h1 ?h2 Tryd.underlying28 rfl (by kernel_rfl)) ?h3 ?h4
      case h0 => rfl
      case h1 => rfl
      case h3 => rfl
      case h2 =>
        repeat (with_reducible first | apply blk_drewN | apply blk_drew | apply blk_alloc)
        with_reducible refine put7 (c0 := .int .i64 0) (c1 := .slice none 0 0) (c2 := .int .u32 0) (c3 := .int .i64 0) (c4 := .string ⟨#[]⟩) (c5 := .bool false) (c6 := .string ⟨#[]⟩) ?_
        repeat (first | (with_reducible first | exact hblk.out | apply blk_drewN | apply blk_drew | apply blk_alloc) | refine blk_far ?_ (by show w.heap.size ≠ w2.heap.size; omega) _)
      case h4 =>
        refine ⟨_, rfl, ?hq, ?_⟩
        case hq =>
          refine Q_one_at (W := ?W) ?hg ?sm ?hz
          case sm => exact (by repeat (first | (with_reducible first | exact same_refl _ _ | apply same_drewN | apply same_drew | apply same_alloc) | refine same_set ?_ _ (by first | (simp; done) | (simp; omega) | omega)))
          case hg => simp
          case hz => (first | omega | (simp; omega))
        repeat (first | (with_reducible first | exact hbel.out | apply below_alloc | apply pw_below_drewN | apply below_drew1) | refine below_set ?_ (by omega))
  · rintro e w' ⟨v, rfl, hQ, hb⟩
    exact ⟨_, rfl, hQ, hb⟩
set_option maxRecDepth 100000 in
set_option maxHeartbeats 1600000 in
theorem rpar_delete_yes_k (s : ByteArray) (hs : s.size ≤ 1000000) (hn : (wordsB s).length = 3) (w : World) (e0 : ((wd (wordsB s) 0).toList == [115, 116, 97, 116, 115]) = false) (e1 : ((wd (wordsB s) 0).toList == [118, 101, 114, 115, 105, 111, 110]) = false) (e2 : ((wd (wordsB s) 0).toList == [113, 117, 105, 116]) = false) (e3 : ((wd (wordsB s) 0).toList == [103, 101, 116]) = false) (e4 : ((wd (wordsB s) 0).toList == [100, 101, 108, 101, 116, 101]) = true) (hl : ((wd (wordsB s) (2)).toList == [110, 111, 114, 101, 112, 108, 121]) = true) (hko : keyP (wd (wordsB s) 1) = false) :
    Calls Tryd.prog 9 #[.string s] w (TellsC (badA fmtB (-1)) w.heap.size w) := by
  have CW := Lib.hid (fun w => refWords_c s hs 3 hn (by omega) w)
  have HS := Lib.hid (fun (x : ByteArray) (h : x ∈ wordsB s) => Nat.le_trans (words_size h) hs)
  have CF := Lib.hid rbad_fmt
  have CK := Lib.hid (fun w => rkey_c (wd (wordsB s) 1) w)
  rw [hko] at CK
  clear hko
  have HN := Lib.hid hn
  clear hn
  refine Calls.mono (R := fun e w' => e = .returned (.tuple #[.agg #[.int .i64 8, .slice none 0 0, .int .u32 0, .int .i64 0, .string ⟨#[]⟩, .bool false, .string fmtB], .int .i64 (-1)]) ∧ Below w.heap.size w w') ?_ ?_
  · go_enter Tryd.func9, Tryd.ntmps9
    go_wp2_with (first
      | (go_at_call 15; ((with_reducible refine (CW.out _).mono ?_); rintro e w1 ⟨g, cap, rfl, hcap, hg, hlt, hx, hR, hb1⟩; obtain ⟨hc9, hf9⟩ := bcell hb1; have hz9 := hb1.size; (simp at hz9 hg); have hz8 : w.heap.size < w1.heap.size := (by omega); clear hz9; have x0 := wd_cell hx.out 0 (by have := HN.out; omega); have x1 := wd_cell hx.out 1 (by have := HN.out; omega); have x9 := wd_cell hx.out (2) (by have := HN.out; omega); clear hx))
      | (go_at_call 16; (with_reducible refine (CF.out _).mono ?_); rintro e w2 ⟨rfl, hb2⟩; obtain ⟨hc7, hf7⟩ := bcell hb2; have hz7 := hb2.size; have hz6 : w.heap.size < w2.heap.size := (by omega); have hz5 : g < w2.heap.size := (by omega))
      | (go_at_call 17; (with_reducible refine (CK.out _).mono ?_); rintro e w' ⟨rfl, ⟨nd, rfl⟩⟩))
    all_goals
      clear hc9 hf9 hc7 hf7
      have hblk := Lib.hid (blk_below (blk_below (blk_new w (.cells #[.int .i64 0, .slice none 0 0, .int .u32 0, .int .i64 0, .string ⟨#[]⟩, .bool false, .string ⟨#[]⟩] 28)) hb1) hb2)
      have hbel := Lib.hid (below_step (below_step (below_alloc (Below.refl w.heap.size w) (.cells #[.int .i64 0, .slice none 0 0, .int .u32 0, .int .i64 0, .string ⟨#[]⟩, .bool false, .string ⟨#[]⟩] 28)) hb1) hb2)
      refine bodyPost_ret (results_ct (p := 2) (u := 3) (ty := 28) (fn := Tryd.f9) ?h0 _ _ w.heap.size 28 #[.int .i64 8, .slice none 0 0, .int .u32 0, .int .i64 0, .string ⟨#[]⟩, .bool false, .string fmtB] (0, 0) _ ?h1 ?h2 Tryd.underlying28 rfl (by kernel_rfl)) ?h3 ?h4
      case h0 => rfl
      case h1 => rfl
      case h3 => rfl
      case h2 =>
        repeat (with_reducible first | apply blk_drewN | apply blk_drew | apply blk_alloc)
        with_reducible refine put7 (c0 := .int .i64 0) (c1 := .slice none 0 0) (c2 := .int .u32 0) (c3 := .int .i64 0) (c4 := .string ⟨#[]⟩) (c5 := .bool false) (c6 := .string ⟨#[]⟩) ?_
        repeat (first | (with_reducible first | exact hblk.out | apply blk_drewN | apply blk_drew | apply blk_alloc) | refine blk_far ?_ (by show w.heap.size ≠ w2.heap.size; omega) _)
      case h4 =>
        refine ⟨rfl, ?_⟩
        repeat (first | (with_reducible first | exact hbel.out | apply below_alloc | apply pw_below_drewN | apply below_drew1) | refine below_set ?_ (by omega))
  · rintro e w' ⟨rfl, hb⟩
    exact ⟨_, rfl, Kd.Q_nil _ _ _ _ _, hb⟩
set_option maxRecDepth 100000 in
set_option maxHeartbeats 1600000 in
theorem rpar_delete_yes (s : ByteArray) (hs : s.size ≤ 1000000) (hn : (wordsB s).length = 3) (w : World) (e0 : ((wd (wordsB s) 0).toList == [115, 116, 97, 116, 115]) = false) (e1 : ((wd (wordsB s) 0).toList == [118, 101, 114, 115, 105, 111, 110]) = false) (e2 : ((wd (wordsB s) 0).toList == [113, 117, 105, 116]) = false) (e3 : ((wd (wordsB s) 0).toList == [103, 101, 116]) = false) (e4 : ((wd (wordsB s) 0).toList == [100, 101, 108, 101, 116, 101]) = true) (hl : ((wd (wordsB s) (2)).toList == [110, 111, 114, 101, 112, 108, 121]) = true) (hko : keyP (wd (wordsB s) 1) = true) :
    Calls Tryd.prog 9 #[.string s] w (TellsC (3, [wd (wordsB s) 1], 0, 0, ⟨#[]⟩, true, ⟨#[]⟩, -1) w.heap.size w) := by
  have CW := Lib.hid (fun w => refWords_c s hs 3 hn (by omega) w)
  have HS := Lib.hid (fun (x : ByteArray) (h : x ∈ wordsB s) => Nat.le_trans (words_size h) hs)
  have CF := Lib.hid rbad_fmt
  have CK := Lib.hid (fun w => rkey_c (wd (wordsB s) 1) w)
  rw [hko] at CK
  clear hko
  have HN := Lib.hid hn
  clear hn
  refine Calls.mono (R := fun e w' => ∃ v, e = .returned (.tuple #[.agg #[.int .i64 3, v, .int .u32 0, .int .i64 0, .string ⟨#[]⟩, .bool true, .string ⟨#[]⟩], .int .i64 (-1)]) ∧ Kd.Q Kd.string 9 w' w.heap.size (fun _ => True) v [wd (wordsB s) 1] ∧ Below w.heap.size w w') ?_ ?_
  · go_enter Tryd.func9, Tryd.ntmps9
    go_wp2_with (first
      | (go_at_call 15; ((with_reducible refine (CW.out _).mono ?_); rintro e w1 ⟨g, cap, rfl, hcap, hg, hlt, hx, hR, hb1⟩; obtain ⟨hc9, hf9⟩ := bcell hb1; have hz9 := hb1.size; (simp at hz9 hg); have hz8 : w.heap.size < w1.heap.size := (by omega); clear hz9; have x0 := wd_cell hx.out 0 (by have := HN.out; omega); have x1 := wd_cell hx.out 1 (by have := HN.out; omega); have x9 := wd_cell hx.out (2) (by have := HN.out; omega); clear hx))
      | (go_at_call 16; (with_reducible refine (CF.out _).mono ?_); rintro e w2 ⟨rfl, hb2⟩; obtain ⟨hc7, hf7⟩ := bcell hb2; have hz7 := hb2.size; have hz6 : w.heap.size < w2.heap.size := (by omega); have hz5 : g < w2.heap.size := (by omega))
      | (go_at_call 17; (with_reducible refine (CK.out _).mono ?_); rintro e w' ⟨rfl, ⟨nd, rfl⟩⟩))
    all_goals
      clear hc9 hf9 hc7 hf7
      have hblk := Lib.hid (blk_below (blk_below (blk_new w (.cells #[.int .i64 0, .slice none 0 0, .int .u32 0, .int .i64 0, .string ⟨#[]⟩, .bool false, .string ⟨#[]⟩] 28)) hb1) hb2)
      have hbel := Lib.hid (below_step (below_step (below_alloc (Below.refl w.heap.size w) (.cells #[.int .i64 0, .slice none 0 0, .int .u32 0, .int .i64 0, .string ⟨#[]⟩, .bool false, .string ⟨#[]⟩] 28)) hb1) hb2)
      refine bodyPost_ret (results_ct (p := 2) (u := 3) (ty := 28) (fn := Tryd.f9) ?h0 _ _ w.heap.size 28 #[.int .i64 3, (.slice (some ⟨w2.heap.size + 1, 0, none⟩) 1 1), .int .u32 0, .int .i64 0, .string ⟨#[]⟩, .bool true, .string ⟨#[]⟩] (0, 0) _ ?h1 ?h2 Tryd.underlying28 rfl (by kernel_rfl)) ?h3 ?h4
      case h0 => rfl
      case h1 => rfl
      case h3 => rfl
      case h2 =>
        repeat (with_reducible first | apply blk_drewN | apply blk_drew | apply blk_alloc)
        with_reducible refine put7 (c0 := .int .i64 0) (c1 := .slice none 0 0) (c2 := .int .u32 0) (c3 := .int .i64 0) (c4 := .string ⟨#[]⟩) (c5 := .bool false) (c6 := .string ⟨#[]⟩) ?_
        repeat (first | (with_reducible first | exact hblk.out | apply blk_drewN | apply blk_drew | apply blk_alloc) | refine blk_far ?_ (by show w.heap.size ≠ w2.heap.size; omega) _)
      case h4 =>
        refine ⟨_, rfl, ?hq, ?_⟩
        case hq =>
          refine Q_one_at (W := ?W) ?hg ?sm ?hz
          case sm => exact (by repeat (first | (with_reducible first | exact same_refl _ _ | apply same_drewN | apply same_drew | apply same_alloc) | refine same_set ?_ _ (by first | (simp; done) | (simp; omega) | omega)))
          case hg => simp
          case hz => (first | omega | (simp; omega))
        repeat (first | (with_reducible first | exact hbel.out | apply below_alloc | apply pw_below_drewN | apply below_drew1) | refine below_set ?_ (by omega))
  · rintro e w' ⟨v, rfl, hQ, hb⟩
    exact ⟨_, rfl, hQ, hb⟩
set_option maxRecDepth 100000 in
set_option maxHeartbeats 1600000 in
theorem rpar_delete_x (s : ByteArray) (hs : s.size ≤ 1000000) (hn : (wordsB s).length = 3) (w : World) (e0 : ((wd (wordsB s) 0).toList == [115, 116, 97, 116, 115]) = false) (e1 : ((wd (wordsB s) 0).toList == [118, 101, 114, 115, 105, 111, 110]) = false) (e2 : ((wd (wordsB s) 0).toList == [113, 117, 105, 116]) = false) (e3 : ((wd (wordsB s) 0).toList == [103, 101, 116]) = false) (e4 : ((wd (wordsB s) 0).toList == [100, 101, 108, 101, 116, 101]) = true) (hl : ((wd (wordsB s) (2)).toList == [110, 111, 114, 101, 112, 108, 121]) = false) :
    Calls Tryd.prog 9 #[.string s] w (TellsC (badA fmtB (-1)) w.heap.size w) := by
  have CW := Lib.hid (fun w => refWords_c s hs 3 hn (by omega) w)
  have HS := Lib.hid (fun (x : ByteArray) (h : x ∈ wordsB s) => Nat.le_trans (words_size h) hs)
  have CF := Lib.hid rbad_fmt
  have HN := Lib.hid hn
  clear hn
  refine Calls.mono (R := fun e w' => e = .returned (.tuple #[.agg #[.int .i64 8, .slice none 0 0, .int .u32 0, .int .i64 0, .string ⟨#[]⟩, .bool false, .string fmtB], .int .i64 (-1)]) ∧ Below w.heap.size w w') ?_ ?_
  · go_enter Tryd.func9, Tryd.ntmps9
    go_wp2_with (first
      | (go_at_call 15; ((with_reducible refine (CW.out _).mono ?_); rintro e w1 ⟨g, cap, rfl, hcap, hg, hlt, hx, hR, hb1⟩; obtain ⟨hc9, hf9⟩ := bcell hb1; have hz9 := hb1.size; (simp at hz9 hg); have hz8 : w.heap.size < w1.heap.size := (by omega); clear hz9; have x0 := wd_cell hx.out 0 (by have := HN.out; omega); have x9 := wd_cell hx.out (2) (by have := HN.out; omega); clear hx))
      | (go_at_call 16; (with_reducible refine (CF.out _).mono ?_); rintro e w2 ⟨rfl, hb2⟩; obtain ⟨hc7, hf7⟩ := bcell hb2; have hz7 := hb2.size; have hz6 : w.heap.size < w2.heap.size := (by omega); have hz5 : g < w2.heap.size := (by omega)))
    all_goals
      clear hc9 hf9 hc7 hf7
      have hblk := Lib.hid (blk_below (blk_below (blk_new w (.cells #[.int .i64 0, .slice none 0 0, .int .u32 0, .int .i64 0, .string ⟨#[]⟩, .bool false, .string ⟨#[]⟩] 28)) hb1) hb2)
      have hbel := Lib.hid (below_step (below_step (below_alloc (Below.refl w.heap.size w) (.cells #[.int .i64 0, .slice none 0 0, .int .u32 0, .int .i64 0, .string ⟨#[]⟩, .bool false, .string ⟨#[]⟩] 28)) hb1) hb2)
      refine bodyPost_ret (results_ct (p := 2) (u := 3) (ty := 28) (fn := Tryd.f9) ?h0 _ _ w.heap.size 28 #[.int .i64 8, .slice none 0 0, .int .u32 0, .int .i64 0, .string ⟨#[]⟩, .bool false, .string fmtB] (0, 0) _ ?h1 ?h2 Tryd.underlying28 rfl (by kernel_rfl)) ?h3 ?h4
      case h0 => rfl
      case h1 => rfl
      case h3 => rfl
      case h2 =>
        repeat (with_reducible first | apply blk_drewN | apply blk_drew | apply blk_alloc)
        with_reducible refine put7 (c0 := .int .i64 0) (c1 := .slice none 0 0) (c2 := .int .u32 0) (c3 := .int .i64 0) (c4 := .string ⟨#[]⟩) (c5 := .bool false) (c6 := .string ⟨#[]⟩) ?_
        repeat (first | (with_reducible first | exact hblk.out | apply blk_drewN | apply blk_drew | apply blk_alloc) | refine blk_far ?_ (by show w.heap.size ≠ w2.heap.size; omega) _)
      case h4 =>
        refine ⟨rfl, ?_⟩
        repeat (first | (with_reducible first | exact hbel.out | apply below_alloc | apply pw_below_drewN | apply below_drew1) | refine below_set ?_ (by omega))
  · rintro e w' ⟨rfl, hb⟩
    exact ⟨_, rfl, Kd.Q_nil _ _ _ _ _, hb⟩
end Go.Proofs.YthinmioognadpaaDoor.Cmd

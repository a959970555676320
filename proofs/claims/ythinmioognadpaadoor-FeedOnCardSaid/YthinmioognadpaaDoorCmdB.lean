/- Merged of CmdSetW, CmdSetV, CmdKeys, CmdSetA (own text; wip/tools/merge.py). -/
import Derived.Test.YthinmioognadpaaDoorCmdPure
import Derived.Deep.Cut
import Derived.IntWalk
/- cmd.set: the walk (own text). -/
namespace Go.Proofs.YthinmioognadpaaDoor.Cmd
open Go.RowKit Go.Proofs.YthinmioognadpaaDoorW.PrintWords Go.Proofs.YthinmioognadpaaDoorW.PrintLast Go.Proofs.YthinmioognadpaaDoorW.PrintMore Go.Proofs.YthinmioognadpaaDoor.PCmd Go.Proofs.YthinmioognadpaaDoor.Split
set_option linter.unusedVariables false
set_option linter.unusedSimpArgs false
def noreplyB : ByteArray := ⟨#[110, 111, 114, 101, 112, 108, 121]⟩
def fmtB : ByteArray := ⟨#[67, 76, 73, 69, 78, 84, 95, 69, 82, 82, 79, 82, 32, 98, 97, 100, 32, 99, 111, 109, 109, 97, 110, 100, 32, 108, 105, 110, 101, 32, 102, 111, 114, 109, 97, 116, 13, 10]⟩
def bigB : ByteArray := ⟨#[83, 69, 82, 86, 69, 82, 95, 69, 82, 82, 79, 82, 32, 111, 98, 106, 101, 99, 116, 32, 116, 111, 111, 32, 108, 97, 114, 103, 101, 32, 102, 111, 114, 32, 99, 97, 99, 104, 101, 13, 10]⟩
def errB : ByteArray := ⟨#[69, 82, 82, 79, 82, 13, 10]⟩
abbrev Ans := Int × List ByteArray × Int × Int × ByteArray × Bool × ByteArray × Int
def badA (t : ByteArray) (d : Int) : Ans := (8, [], 0, 0, ⟨#[]⟩, false, t, d)
/-- What a function that answers a command ends in. -/
def TellsC (a : Ans) (base : Nat) (w : World) (e : Ending) (w' : World) : Prop :=
  ∃ v : Value, e = .returned (.tuple #[.agg #[.int .i64 a.1, v, .int .u32 a.2.2.1, .int .i64 a.2.2.2.1, .string a.2.2.2.2.1, .bool a.2.2.2.2.2.1, .string a.2.2.2.2.2.2.1], .int .i64 a.2.2.2.2.2.2.2]) ∧ Kd.Q Kd.string 9 w' base (fun _ => True) v a.2.1 ∧ Below w.heap.size w w'
theorem put7 {w : World} {g : Nat} {t : TypeId} {c0 c1 c2 c3 c4 c5 c6 a0 a1 a2 a3 a4 a5 a6 : Value} (h : w.heap[g]? = some (.cells #[c0, c1, c2, c3, c4, c5, c6] t (0, 0))) :
    (((((((w.setCell ⟨g, 0, none⟩ a0).setCell ⟨g, 1, none⟩ a1).setCell ⟨g, 2, none⟩ a2).setCell ⟨g, 3, none⟩ a3).setCell ⟨g, 4, none⟩ a4).setCell ⟨g, 5, none⟩ a5).setCell ⟨g, 6, none⟩ a6).heap[g]? = some (.cells #[a0, a1, a2, a3, a4, a5, a6] t (0, 0)) := by
  replace h := blk_put (cs' := #[a0, c1, c2, c3, c4, c5, c6]) h 0 a0 rfl
  replace h := blk_put (cs' := #[a0, a1, c2, c3, c4, c5, c6]) h 1 a1 rfl
  replace h := blk_put (cs' := #[a0, a1, a2, c3, c4, c5, c6]) h 2 a2 rfl
  replace h := blk_put (cs' := #[a0, a1, a2, a3, c4, c5, c6]) h 3 a3 rfl
  replace h := blk_put (cs' := #[a0, a1, a2, a3, a4, c5, c6]) h 4 a4 rfl
  replace h := blk_put (cs' := #[a0, a1, a2, a3, a4, a5, c6]) h 5 a5 rfl
  replace h := blk_put (cs' := #[a0, a1, a2, a3, a4, a5, a6]) h 6 a6 rfl
  exact h
theorem far1 {w : World} {g j : Nat} {t : TypeId} {cs : Array Value} {u : Value} (h : w.heap[g]? = some (.cells cs t (0, 0))) : (w.setCell ⟨g + 1, j, none⟩ u).heap[g]? = some (.cells cs t (0, 0)) := blk_far h (p := ⟨g + 1, j, none⟩) (by show g ≠ g + 1; omega) u
set_option maxRecDepth 100000 in
theorem bad_c (s : ByteArray) (hs : s.size ≤ 1000) (w : World) : Calls Tryd.prog 29 #[.string s] w fun e w' => e = .returned (.agg #[.int .i64 8, .slice none 0 0, .int .u32 0, .int .i64 0, .string ⟨#[]⟩, .bool false, .string (s ++ ⟨#[13, 10]⟩)]) ∧ Below w.heap.size w w' := by
  go_enter Tryd.func29, Tryd.ntmps29
  go_wp2_with (fail)
  refine bodyPost_ret (results_cell_row rfl _ _ w.heap.size 28 #[.int .i64 8, .slice none 0 0, .int .u32 0, .int .i64 0, .string ⟨#[]⟩, .bool false, .string (s ++ ⟨#[13, 10]⟩)] (0, 0) _ rfl ?h2 Tryd.underlying28 rfl (by kernel_rfl)) rfl ?h4
  case h2 =>
    (with_reducible exact blk_new _ _)
  case h4 =>
    refine ⟨rfl, ?_⟩
    repeat (first | (with_reducible first | exact Below.refl _ _ | apply below_alloc | apply pw_below_drewN) | refine below_set ?_ (by omega))
theorem bad_fmt (w : World) : Calls Tryd.prog 29 #[.string ⟨#[67, 76, 73, 69, 78, 84, 95, 69, 82, 82, 79, 82, 32, 98, 97, 100, 32, 99, 111, 109, 109, 97, 110, 100, 32, 108, 105, 110, 101, 32, 102, 111, 114, 109, 97, 116]⟩] w fun e w' => e = .returned (.agg #[.int .i64 8, .slice none 0 0, .int .u32 0, .int .i64 0, .string ⟨#[]⟩, .bool false, .string fmtB]) ∧ Below w.heap.size w w' :=
  bad_c _ (by decide) w
theorem bad_big (w : World) : Calls Tryd.prog 29 #[.string ⟨#[83, 69, 82, 86, 69, 82, 95, 69, 82, 82, 79, 82, 32, 111, 98, 106, 101, 99, 116, 32, 116, 111, 111, 32, 108, 97, 114, 103, 101, 32, 102, 111, 114, 32, 99, 97, 99, 104, 101]⟩] w fun e w' => e = .returned (.agg #[.int .i64 8, .slice none 0 0, .int .u32 0, .int .i64 0, .string ⟨#[]⟩, .bool false, .string bigB]) ∧ Below w.heap.size w w' :=
  bad_c _ (by decide) w
theorem bad_err (w : World) : Calls Tryd.prog 29 #[.string ⟨#[69, 82, 82, 79, 82]⟩] w fun e w' => e = .returned (.agg #[.int .i64 8, .slice none 0 0, .int .u32 0, .int .i64 0, .string ⟨#[]⟩, .bool false, .string errB]) ∧ Below w.heap.size w w' :=
  bad_c _ (by decide) w
theorem amount_c (s : ByteArray) (w : World) : Calls Tryd.prog 35 #[.string s] w fun e w' => e = .returned (.tuple #[.int .i64 (amtV s), .bool (amtB s)]) ∧ Drawn0 w w' := cmd_amount.calls 12 s _ _ w (amount_is s 12 (by omega))
theorem moment_c (s : ByteArray) (hs : s.size ≤ 1000000) (w : World) : Calls Tryd.prog 32 #[.string s] w fun e w' => e = .returned (.tuple #[.int .i64 (momV s), .bool (momB s)]) ∧ Drawn0 w w' := cmd_moment.calls 12 s _ _ w (moment_is s 12 (by omega) hs)
theorem bcell {W w1 : World} (hb : Below W.heap.size W w1) : (∀ b o, b < W.heap.size → w1.cell? ⟨b, o, none⟩ = W.cell? ⟨b, o, none⟩) ∧ (∀ b o, b < W.heap.size → w1.frozen? ⟨b, o, none⟩ = W.frozen? ⟨b, o, none⟩) :=
  ⟨fun b o h => hb.cell (p := ⟨b, o, none⟩) h, fun b o h => hb.frozen (p := ⟨b, o, none⟩) h⟩
theorem quiet_ne (g n cap m : Nat) (w : World) (h : n ≠ m + 1) (hm : m ≤ 10) : Calls Tryd.prog 31 #[.slice (some ⟨g, 0, none⟩) n cap, .int .i64 m] w fun e w' => e = .returned (.tuple #[.slice (some ⟨g, 0, none⟩) n cap, .bool false]) ∧ w = w' := by
  have h1 : IntKind.i64.wrap ((m : Int) + 1) = (m : Int) + 1 := IntWalk.i64_in _ ⟨by omega, by omega⟩
  have h2 : ((n : Int) == (m : Int) + 1) = false := beq_eq_false_iff_ne.2 (by omega)
  clear h
  go_enter Tryd.func31, Tryd.ntmps31
  go_wp2
  go_ret2
  exact ⟨rfl, rfl⟩
theorem quiet_no (g cap m : Nat) (s : ByteArray) (w : World) (hc : w.cell? ⟨g, m, none⟩ = some (.string s)) (hs : (s.toList == [110, 111, 114, 101, 112, 108, 121]) = false) (hm : m ≤ 10) : Calls Tryd.prog 31 #[.slice (some ⟨g, 0, none⟩) (m + 1) cap, .int .i64 m] w fun e w' => e = .returned (.tuple #[.slice (some ⟨g, 0, none⟩) (m + 1) cap, .bool false]) ∧ w = w' := by
  have h1 : IntKind.i64.wrap ((m : Int) + 1) = (m : Int) + 1 := IntWalk.i64_in _ ⟨by omega, by omega⟩
  go_enter Tryd.func31, Tryd.ntmps31
  go_wp2
  go_ret2
  exact ⟨rfl, rfl⟩
theorem quiet_yes (g cap m : Nat) (s : ByteArray) (w : World) (hc : w.cell? ⟨g, m, none⟩ = some (.string s)) (hs : (s.toList == [110, 111, 114, 101, 112, 108, 121]) = true) (hm : m ≤ 10) (hcap : m ≤ cap) : Calls Tryd.prog 31 #[.slice (some ⟨g, 0, none⟩) (m + 1) cap, .int .i64 m] w fun e w' => e = .returned (.tuple #[.slice (some ⟨g, 0, none⟩) m cap, .bool true]) ∧ w = w' := by
  have h1 : IntKind.i64.wrap ((m : Int) + 1) = (m : Int) + 1 := IntWalk.i64_in _ ⟨by omega, by omega⟩
  go_enter Tryd.func31, Tryd.ntmps31
  go_wp2
  go_ret2
  exact ⟨rfl, rfl⟩
theorem key_c (s : ByteArray) (hs : s.size ≤ 1000000) (w : World) : Calls Tryd.prog 36 #[.string s] w fun e w' => e = .returned (.bool (keyP s)) ∧ Drawn0 w w' := rec_KeyMay.calls (s.size + 1) s _ w (keyMay_is s _ hs (by omega))
end Go.Proofs.YthinmioognadpaaDoor.Cmd

/- The ways through cmd.set (printed by wip/tools/gen_cmdset.py, a program of this session). -/
namespace Go.Proofs.YthinmioognadpaaDoor.Cmd
open Go.RowKit Go.Proofs.YthinmioognadpaaDoorW.PrintWords Go.Proofs.YthinmioognadpaaDoorW.PrintLast Go.Proofs.YthinmioognadpaaDoorW.PrintMore Go.Proofs.YthinmioognadpaaDoor.PCmd Go.Proofs.YthinmioognadpaaDoor.Split
set_option linter.unusedVariables false
set_option linter.unusedSimpArgs false
set_option maxRecDepth 100000 in
set_option maxHeartbeats 1600000 in
theorem set_other (g cap n : Nat) (s1 s2 s3 s4 s5 : ByteArray) (w : World) (hg : g < w.heap.size) (h5 : n ≠ 5) (h6 : n ≠ 6) (hn : n ≤ 1000001) :
    Calls Tryd.prog 30 #[.slice (some ⟨g, 0, none⟩) n cap] w fun e w' => e = .returned (.tuple #[.agg #[.int .i64 8, .slice none 0 0, .int .u32 0, .int .i64 0, .string ⟨#[]⟩, .bool false, .string fmtB], .int .i64 (-1)]) ∧ Below w.heap.size w w' := by
  have CQ : Hid (∀ w, Calls Tryd.prog 31 #[.slice (some ⟨g, 0, none⟩) n cap, .int .i64 5] w fun e w' => e = .returned (.tuple #[.slice (some ⟨g, 0, none⟩) n cap, .bool false]) ∧ w = w') := Lib.hid (fun w => quiet_ne g n cap 5 w (by omega) (by omega))
  have t5 : ((n : Int) == 5) = false := beq_eq_false_iff_ne.2 (by omega)
  have t6 : ((n : Int) == 6) = false := beq_eq_false_iff_ne.2 (by omega)
  have u5 : ((n : Int) != 5) = true := bne_iff_ne.2 (by omega)
  clear h5 h6
  skip
  have CB := Lib.hid (fun w => bad_fmt w)
  go_enter Tryd.func30, Tryd.ntmps30
  go_wp2_with (first
    | (go_at_call 31; (with_reducible refine (CQ.out _).mono ?_); rintro e w' ⟨rfl, rfl⟩)
    | (go_at_call 29; (with_reducible refine (CB.out _).mono ?_); rintro e w1 ⟨rfl, hb1⟩; obtain ⟨hc9, hf9⟩ := bcell hb1))
  clear hc9 hf9
  have hblk := Lib.hid (blk_new w (.cells #[.int .i64 0, .slice none 0 0, .int .u32 0, .int .i64 0, .string ⟨#[]⟩, .bool false, .string ⟨#[]⟩] 28))
  have hbel := Lib.hid (below_alloc (Below.refl w.heap.size w) (.cells #[.int .i64 0, .slice none 0 0, .int .u32 0, .int .i64 0, .string ⟨#[]⟩, .bool false, .string ⟨#[]⟩] 28))
  generalize w.alloc (.cells #[.int .i64 0, .slice none 0 0, .int .u32 0, .int .i64 0, .string ⟨#[]⟩, .bool false, .string ⟨#[]⟩] 28) = wa at *
  refine bodyPost_ret (results_ct (p := 2) (u := 3) (ty := 28) (fn := Tryd.f30) ?h0 _ _ w.heap.size 28 #[.int .i64 8, .slice none 0 0, .int .u32 0, .int .i64 0, .string ⟨#[]⟩, .bool false, .string fmtB] (0, 0) _ ?h1 ?h2 Tryd.underlying28 rfl (by kernel_rfl)) ?h3 ?h4
  case h0 => rfl
  case h1 => rfl
  case h3 => rfl
  case h2 =>
    refine put7 (c0 := .int .i64 0) (c1 := .slice none 0 0) (c2 := .int .u32 0) (c3 := .int .i64 0) (c4 := .string ⟨#[]⟩) (c5 := .bool false) (c6 := .string ⟨#[]⟩) ?_
    refine blk_below ?_ hb1
    repeat (with_reducible first | exact hblk.out | apply far1 | apply blk_drewN | apply blk_alloc)
  case h4 =>
    refine ⟨rfl, ?_⟩
    repeat (first | (with_reducible first | exact hbel.out | apply below_alloc | apply pw_below_drewN) | refine below_set ?_ (by omega) | refine below_step ?_ hb1)
set_option maxRecDepth 100000 in
set_option maxHeartbeats 1600000 in
theorem set_amt_5 (g cap : Nat) (s1 s2 s3 s4 s5 : ByteArray) (w : World) (hg : g < w.heap.size) (hcap : 5 ≤ cap) (x4 : w.cell? ⟨g, 4, none⟩ = some (.string s4)) (hb4 : amtB s4 = false) :
    Calls Tryd.prog 30 #[.slice (some ⟨g, 0, none⟩) 5 cap] w fun e w' => e = .returned (.tuple #[.agg #[.int .i64 8, .slice none 0 0, .int .u32 0, .int .i64 0, .string ⟨#[]⟩, .bool false, .string fmtB], .int .i64 (-1)]) ∧ Below w.heap.size w w' := by
  have CQ : Hid (∀ w, Calls Tryd.prog 31 #[.slice (some ⟨g, 0, none⟩) 5 cap, .int .i64 5] w fun e w' => e = .returned (.tuple #[.slice (some ⟨g, 0, none⟩) 5 cap, .bool false]) ∧ w = w') := Lib.hid (fun w => quiet_ne g 5 cap 5 w (by omega) (by omega))
  have C4 := Lib.hid (fun w => amount_c s4 w)
  rw [hb4] at C4
  clear hb4
  have CB := Lib.hid (fun w => bad_fmt w)
  go_enter Tryd.func30, Tryd.ntmps30
  go_wp2_with (first
    | (go_at_call 35; first | ((with_reducible refine (C4.out _).mono ?_); rintro e w' ⟨rfl, ⟨nd, rfl⟩⟩))
    | (go_at_call 31; (with_reducible refine (CQ.out _).mono ?_); rintro e w' ⟨rfl, rfl⟩)
    | (go_at_call 29; (with_reducible refine (CB.out _).mono ?_); rintro e w1 ⟨rfl, hb1⟩; obtain ⟨hc9, hf9⟩ := bcell hb1))
  clear hc9 hf9
  have hblk := Lib.hid (blk_new w (.cells #[.int .i64 0, .slice none 0 0, .int .u32 0, .int .i64 0, .string ⟨#[]⟩, .bool false, .string ⟨#[]⟩] 28))
  have hbel := Lib.hid (below_alloc (Below.refl w.heap.size w) (.cells #[.int .i64 0, .slice none 0 0, .int .u32 0, .int .i64 0, .string ⟨#[]⟩, .bool false, .string ⟨#[]⟩] 28))
  generalize w.alloc (.cells #[.int .i64 0, .slice none 0 0, .int .u32 0, .int .i64 0, .string ⟨#[]⟩, .bool false, .string ⟨#[]⟩] 28) = wa at *
  refine bodyPost_ret (results_ct (p := 2) (u := 3) (ty := 28) (fn := Tryd.f30) ?h0 _ _ w.heap.size 28 #[.int .i64 8, .slice none 0 0, .int .u32 0, .int .i64 0, .string ⟨#[]⟩, .bool false, .string fmtB] (0, 0) _ ?h1 ?h2 Tryd.underlying28 rfl (by kernel_rfl)) ?h3 ?h4
  case h0 => rfl
  case h1 => rfl
  case h3 => rfl
  case h2 =>
    refine put7 (c0 := .int .i64 0) (c1 := .slice none 0 0) (c2 := .int .u32 0) (c3 := .int .i64 0) (c4 := .string ⟨#[]⟩) (c5 := .bool false) (c6 := .string ⟨#[]⟩) ?_
    refine blk_below ?_ hb1
    repeat (with_reducible first | exact hblk.out | apply far1 | apply blk_drewN | apply blk_alloc)
  case h4 =>
    refine ⟨rfl, ?_⟩
    repeat (first | (with_reducible first | exact hbel.out | apply below_alloc | apply pw_below_drewN) | refine below_set ?_ (by omega) | refine below_step ?_ hb1)
set_option maxRecDepth 100000 in
set_option maxHeartbeats 1600000 in
theorem set_amt_no (g cap : Nat) (s1 s2 s3 s4 s5 : ByteArray) (w : World) (hg : g < w.heap.size) (hcap : 6 ≤ cap) (x4 : w.cell? ⟨g, 4, none⟩ = some (.string s4)) (hb4 : amtB s4 = false) (x5 : w.cell? ⟨g, 5, none⟩ = some (.string s5)) (hs5 : (s5.toList == [110, 111, 114, 101, 112, 108, 121]) = false) :
    Calls Tryd.prog 30 #[.slice (some ⟨g, 0, none⟩) 6 cap] w fun e w' => e = .returned (.tuple #[.agg #[.int .i64 8, .slice none 0 0, .int .u32 0, .int .i64 0, .string ⟨#[]⟩, .bool false, .string fmtB], .int .i64 (-1)]) ∧ Below w.heap.size w w' := by
  have CQ : Hid (∀ w : World, w.cell? ⟨g, 5, none⟩ = some (.string s5) → Calls Tryd.prog 31 #[.slice (some ⟨g, 0, none⟩) 6 cap, .int .i64 5] w fun e w' => e = .returned (.tuple #[.slice (some ⟨g, 0, none⟩) 6 cap, .bool false]) ∧ w = w') := Lib.hid (fun w hc => quiet_no g cap 5 s5 w hc hs5 (by omega))
  clear hs5
  have C4 := Lib.hid (fun w => amount_c s4 w)
  rw [hb4] at C4
  clear hb4
  have CB := Lib.hid (fun w => bad_fmt w)
  go_enter Tryd.func30, Tryd.ntmps30
  go_wp2_with (first
    | (go_at_call 35; first | ((with_reducible refine (C4.out _).mono ?_); rintro e w' ⟨rfl, ⟨nd, rfl⟩⟩))
    | (go_at_call 31; (with_reducible refine (CQ.out _ (by go_simp)).mono ?_); rintro e w' ⟨rfl, rfl⟩)
    | (go_at_call 29; (with_reducible refine (CB.out _).mono ?_); rintro e w1 ⟨rfl, hb1⟩; obtain ⟨hc9, hf9⟩ := bcell hb1))
  clear hc9 hf9
  have hblk := Lib.hid (blk_new w (.cells #[.int .i64 0, .slice none 0 0, .int .u32 0, .int .i64 0, .string ⟨#[]⟩, .bool false, .string ⟨#[]⟩] 28))
  have hbel := Lib.hid (below_alloc (Below.refl w.heap.size w) (.cells #[.int .i64 0, .slice none 0 0, .int .u32 0, .int .i64 0, .string ⟨#[]⟩, .bool false, .string ⟨#[]⟩] 28))
  generalize w.alloc (.cells #[.int .i64 0, .slice none 0 0, .int .u32 0, .int .i64 0, .string ⟨#[]⟩, .bool false, .string ⟨#[]⟩] 28) = wa at *
  refine bodyPost_ret (results_ct (p := 2) (u := 3) (ty := 28) (fn := Tryd.f30) ?h0 _ _ w.heap.size 28 #[.int .i64 8, .slice none 0 0, .int .u32 0, .int .i64 0, .string ⟨#[]⟩, .bool false, .string fmtB] (0, 0) _ ?h1 ?h2 Tryd.underlying28 rfl (by kernel_rfl)) ?h3 ?h4
  case h0 => rfl
  case h1 => rfl
  case h3 => rfl
  case h2 =>
    refine put7 (c0 := .int .i64 0) (c1 := .slice none 0 0) (c2 := .int .u32 0) (c3 := .int .i64 0) (c4 := .string ⟨#[]⟩) (c5 := .bool false) (c6 := .string ⟨#[]⟩) ?_
    refine blk_below ?_ hb1
    repeat (with_reducible first | exact hblk.out | apply far1 | apply blk_drewN | apply blk_alloc)
  case h4 =>
    refine ⟨rfl, ?_⟩
    repeat (first | (with_reducible first | exact hbel.out | apply below_alloc | apply pw_below_drewN) | refine below_set ?_ (by omega) | refine below_step ?_ hb1)
set_option maxRecDepth 100000 in
set_option maxHeartbeats 1600000 in
theorem set_amt_yes (g cap : Nat) (s1 s2 s3 s4 s5 : ByteArray) (w : World) (hg : g < w.heap.size) (hcap : 6 ≤ cap) (x4 : w.cell? ⟨g, 4, none⟩ = some (.string s4)) (hb4 : amtB s4 = false) (x5 : w.cell? ⟨g, 5, none⟩ = some (.string s5)) (hs5 : (s5.toList == [110, 111, 114, 101, 112, 108, 121]) = true) :
    Calls Tryd.prog 30 #[.slice (some ⟨g, 0, none⟩) 6 cap] w fun e w' => e = .returned (.tuple #[.agg #[.int .i64 8, .slice none 0 0, .int .u32 0, .int .i64 0, .string ⟨#[]⟩, .bool false, .string fmtB], .int .i64 (-1)]) ∧ Below w.heap.size w w' := by
  have CQ : Hid (∀ w : World, w.cell? ⟨g, 5, none⟩ = some (.string s5) → Calls Tryd.prog 31 #[.slice (some ⟨g, 0, none⟩) 6 cap, .int .i64 5] w fun e w' => e = .returned (.tuple #[.slice (some ⟨g, 0, none⟩) 5 cap, .bool true]) ∧ w = w') := Lib.hid (fun w hc => quiet_yes g cap 5 s5 w hc hs5 (by omega) (by omega))
  clear hs5
  have C4 := Lib.hid (fun w => amount_c s4 w)
  rw [hb4] at C4
  clear hb4
  have CB := Lib.hid (fun w => bad_fmt w)
  go_enter Tryd.func30, Tryd.ntmps30
  go_wp2_with (first
    | (go_at_call 35; first | ((with_reducible refine (C4.out _).mono ?_); rintro e w' ⟨rfl, ⟨nd, rfl⟩⟩))
    | (go_at_call 31; (with_reducible refine (CQ.out _ (by go_simp)).mono ?_); rintro e w' ⟨rfl, rfl⟩)
    | (go_at_call 29; (with_reducible refine (CB.out _).mono ?_); rintro e w1 ⟨rfl, hb1⟩; obtain ⟨hc9, hf9⟩ := bcell hb1))
  clear hc9 hf9
  have hblk := Lib.hid (blk_new w (.cells #[.int .i64 0, .slice none 0 0, .int .u32 0, .int .i64 0, .string ⟨#[]⟩, .bool false, .string ⟨#[]⟩] 28))
  have hbel := Lib.hid (below_alloc (Below.refl w.heap.size w) (.cells #[.int .i64 0, .slice none 0 0, .int .u32 0, .int .i64 0, .string ⟨#[]⟩, .bool false, .string ⟨#[]⟩] 28))
  generalize w.alloc (.cells #[.int .i64 0, .slice none 0 0, .int .u32 0, .int .i64 0, .string ⟨#[]⟩, .bool false, .string ⟨#[]⟩] 28) = wa at *
  refine bodyPost_ret (results_ct (p := 2) (u := 3) (ty := 28) (fn := Tryd.f30) ?h0 _ _ w.heap.size 28 #[.int .i64 8, .slice none 0 0, .int .u32 0, .int .i64 0, .string ⟨#[]⟩, .bool false, .string fmtB] (0, 0) _ ?h1 ?h2 Tryd.underlying28 rfl (by kernel_rfl)) ?h3 ?h4
  case h0 => rfl
  case h1 => rfl
  case h3 => rfl
  case h2 =>
    refine put7 (c0 := .int .i64 0) (c1 := .slice none 0 0) (c2 := .int .u32 0) (c3 := .int .i64 0) (c4 := .string ⟨#[]⟩) (c5 := .bool false) (c6 := .string ⟨#[]⟩) ?_
    refine blk_below ?_ hb1
    repeat (with_reducible first | exact hblk.out | apply far1 | apply blk_drewN | apply blk_alloc)
  case h4 =>
    refine ⟨rfl, ?_⟩
    repeat (first | (with_reducible first | exact hbel.out | apply below_alloc | apply pw_below_drewN) | refine below_set ?_ (by omega) | refine below_step ?_ hb1)
set_option maxRecDepth 100000 in
set_option maxHeartbeats 1600000 in
theorem set_six (g cap : Nat) (s1 s2 s3 s4 s5 : ByteArray) (w : World) (hg : g < w.heap.size) (hcap : 6 ≤ cap) (x4 : w.cell? ⟨g, 4, none⟩ = some (.string s4)) (hb4 : amtB s4 = true) (x5 : w.cell? ⟨g, 5, none⟩ = some (.string s5)) (hs5 : (s5.toList == [110, 111, 114, 101, 112, 108, 121]) = false) (hd : decide (amtV s4 < 0) = false) :
    Calls Tryd.prog 30 #[.slice (some ⟨g, 0, none⟩) 6 cap] w fun e w' => e = .returned (.tuple #[.agg #[.int .i64 8, .slice none 0 0, .int .u32 0, .int .i64 0, .string ⟨#[]⟩, .bool false, .string fmtB], .int .i64 (amtV s4)]) ∧ Below w.heap.size w w' := by
  have CQ : Hid (∀ w : World, w.cell? ⟨g, 5, none⟩ = some (.string s5) → Calls Tryd.prog 31 #[.slice (some ⟨g, 0, none⟩) 6 cap, .int .i64 5] w fun e w' => e = .returned (.tuple #[.slice (some ⟨g, 0, none⟩) 6 cap, .bool false]) ∧ w = w') := Lib.hid (fun w hc => quiet_no g cap 5 s5 w hc hs5 (by omega))
  clear hs5
  have C4 := Lib.hid (fun w => amount_c s4 w)
  rw [hb4] at C4
  clear hb4
  have CB := Lib.hid (fun w => bad_fmt w)
  go_enter Tryd.func30, Tryd.ntmps30
  go_wp2_with (first
    | (go_at_call 35; first | ((with_reducible refine (C4.out _).mono ?_); rintro e w' ⟨rfl, ⟨nd, rfl⟩⟩))
    | (go_at_call 31; (with_reducible refine (CQ.out _ (by go_simp)).mono ?_); rintro e w' ⟨rfl, rfl⟩)
    | (go_at_call 29; (with_reducible refine (CB.out _).mono ?_); rintro e w1 ⟨rfl, hb1⟩; obtain ⟨hc9, hf9⟩ := bcell hb1))
  clear hc9 hf9
  have hblk := Lib.hid (blk_new w (.cells #[.int .i64 0, .slice none 0 0, .int .u32 0, .int .i64 0, .string ⟨#[]⟩, .bool false, .string ⟨#[]⟩] 28))
  have hbel := Lib.hid (below_alloc (Below.refl w.heap.size w) (.cells #[.int .i64 0, .slice none 0 0, .int .u32 0, .int .i64 0, .string ⟨#[]⟩, .bool false, .string ⟨#[]⟩] 28))
  generalize w.alloc (.cells #[.int .i64 0, .slice none 0 0, .int .u32 0, .int .i64 0, .string ⟨#[]⟩, .bool false, .string ⟨#[]⟩] 28) = wa at *
  refine bodyPost_ret (results_ct (p := 2) (u := 3) (ty := 28) (fn := Tryd.f30) ?h0 _ _ w.heap.size 28 #[.int .i64 8, .slice none 0 0, .int .u32 0, .int .i64 0, .string ⟨#[]⟩, .bool false, .string fmtB] (0, 0) _ ?h1 ?h2 Tryd.underlying28 rfl (by kernel_rfl)) ?h3 ?h4
  case h0 => rfl
  case h1 => rfl
  case h3 => rfl
  case h2 =>
    refine put7 (c0 := .int .i64 0) (c1 := .slice none 0 0) (c2 := .int .u32 0) (c3 := .int .i64 0) (c4 := .string ⟨#[]⟩) (c5 := .bool false) (c6 := .string ⟨#[]⟩) ?_
    refine blk_below ?_ hb1
    repeat (with_reducible first | exact hblk.out | apply far1 | apply blk_drewN | apply blk_alloc)
  case h4 =>
    refine ⟨rfl, ?_⟩
    repeat (first | (with_reducible first | exact hbel.out | apply below_alloc | apply pw_below_drewN) | refine below_set ?_ (by omega) | refine below_step ?_ hb1)
set_option maxRecDepth 100000 in
set_option maxHeartbeats 1600000 in
theorem set_a_5 (g cap : Nat) (s1 s2 s3 s4 s5 : ByteArray) (w : World) (hg : g < w.heap.size) (hcap : 5 ≤ cap) (x4 : w.cell? ⟨g, 4, none⟩ = some (.string s4)) (hb4 : amtB s4 = true) (hd : decide (amtV s4 < 0) = false) (x2 : w.cell? ⟨g, 2, none⟩ = some (.string s2)) (x3 : w.cell? ⟨g, 3, none⟩ = some (.string s3)) (z3 : s3.size ≤ 1000000) (hb2 : amtB s2 = false) :
    Calls Tryd.prog 30 #[.slice (some ⟨g, 0, none⟩) 5 cap] w fun e w' => e = .returned (.tuple #[.agg #[.int .i64 8, .slice none 0 0, .int .u32 0, .int .i64 0, .string ⟨#[]⟩, .bool false, .string fmtB], .int .i64 (amtV s4)]) ∧ Below w.heap.size w w' := by
  have CQ : Hid (∀ w, Calls Tryd.prog 31 #[.slice (some ⟨g, 0, none⟩) 5 cap, .int .i64 5] w fun e w' => e = .returned (.tuple #[.slice (some ⟨g, 0, none⟩) 5 cap, .bool false]) ∧ w = w') := Lib.hid (fun w => quiet_ne g 5 cap 5 w (by omega) (by omega))
  have C4 := Lib.hid (fun w => amount_c s4 w)
  rw [hb4] at C4
  have C2 := Lib.hid (fun w => amount_c s2 w)
  rw [hb2] at C2
  have C3 := Lib.hid (fun w => moment_c s3 z3 w)
  clear hb4 hb2
  have CB := Lib.hid (fun w => bad_fmt w)
  go_enter Tryd.func30, Tryd.ntmps30
  go_wp2_with (first
    | (go_at_call 35; first | ((with_reducible refine (C4.out _).mono ?_); rintro e w' ⟨rfl, ⟨nd, rfl⟩⟩) | ((with_reducible refine (C2.out _).mono ?_); rintro e w' ⟨rfl, ⟨nd, rfl⟩⟩))
    | (go_at_call 32; (with_reducible refine (C3.out _).mono ?_); rintro e w' ⟨rfl, ⟨nd, rfl⟩⟩)
    | (go_at_call 31; (with_reducible refine (CQ.out _).mono ?_); rintro e w' ⟨rfl, rfl⟩)
    | (go_at_call 29; (with_reducible refine (CB.out _).mono ?_); rintro e w1 ⟨rfl, hb1⟩; obtain ⟨hc9, hf9⟩ := bcell hb1))
  clear hc9 hf9
  have hblk := Lib.hid (blk_new w (.cells #[.int .i64 0, .slice none 0 0, .int .u32 0, .int .i64 0, .string ⟨#[]⟩, .bool false, .string ⟨#[]⟩] 28))
  have hbel := Lib.hid (below_alloc (Below.refl w.heap.size w) (.cells #[.int .i64 0, .slice none 0 0, .int .u32 0, .int .i64 0, .string ⟨#[]⟩, .bool false, .string ⟨#[]⟩] 28))
  generalize w.alloc (.cells #[.int .i64 0, .slice none 0 0, .int .u32 0, .int .i64 0, .string ⟨#[]⟩, .bool false, .string ⟨#[]⟩] 28) = wa at *
  refine bodyPost_ret (results_ct (p := 2) (u := 3) (ty := 28) (fn := Tryd.f30) ?h0 _ _ w.heap.size 28 #[.int .i64 8, .slice none 0 0, .int .u32 0, .int .i64 0, .string ⟨#[]⟩, .bool false, .string fmtB] (0, 0) _ ?h1 ?h2 Tryd.underlying28 rfl (by kernel_rfl)) ?h3 ?h4
  case h0 => rfl
  case h1 => rfl
  case h3 => rfl
  case h2 =>
    refine put7 (c0 := .int .i64 0) (c1 := .slice none 0 0) (c2 := .int .u32 0) (c3 := .int .i64 0) (c4 := .string ⟨#[]⟩) (c5 := .bool false) (c6 := .string ⟨#[]⟩) ?_
    refine blk_below ?_ hb1
    repeat (with_reducible first | exact hblk.out | apply far1 | apply blk_drewN | apply blk_alloc)
  case h4 =>
    refine ⟨rfl, ?_⟩
    repeat (first | (with_reducible first | exact hbel.out | apply below_alloc | apply pw_below_drewN) | refine below_set ?_ (by omega) | refine below_step ?_ hb1)
set_option maxRecDepth 100000 in
set_option maxHeartbeats 1600000 in
theorem set_b_5 (g cap : Nat) (s1 s2 s3 s4 s5 : ByteArray) (w : World) (hg : g < w.heap.size) (hcap : 5 ≤ cap) (x4 : w.cell? ⟨g, 4, none⟩ = some (.string s4)) (hb4 : amtB s4 = true) (hd : decide (amtV s4 < 0) = false) (x2 : w.cell? ⟨g, 2, none⟩ = some (.string s2)) (x3 : w.cell? ⟨g, 3, none⟩ = some (.string s3)) (z3 : s3.size ≤ 1000000) (hb2 : amtB s2 = true) (hb3 : momB s3 = false) :
    Calls Tryd.prog 30 #[.slice (some ⟨g, 0, none⟩) 5 cap] w fun e w' => e = .returned (.tuple #[.agg #[.int .i64 8, .slice none 0 0, .int .u32 0, .int .i64 0, .string ⟨#[]⟩, .bool false, .string fmtB], .int .i64 (amtV s4)]) ∧ Below w.heap.size w w' := by
  have CQ : Hid (∀ w, Calls Tryd.prog 31 #[.slice (some ⟨g, 0, none⟩) 5 cap, .int .i64 5] w fun e w' => e = .returned (.tuple #[.slice (some ⟨g, 0, none⟩) 5 cap, .bool false]) ∧ w = w') := Lib.hid (fun w => quiet_ne g 5 cap 5 w (by omega) (by omega))
  have C4 := Lib.hid (fun w => amount_c s4 w)
  rw [hb4] at C4
  have C2 := Lib.hid (fun w => amount_c s2 w)
  rw [hb2] at C2
  have C3 := Lib.hid (fun w => moment_c s3 z3 w)
  rw [hb3] at C3
  clear hb4 hb2 hb3
  have CB := Lib.hid (fun w => bad_fmt w)
  go_enter Tryd.func30, Tryd.ntmps30
  go_wp2_with (first
    | (go_at_call 35; first | ((with_reducible refine (C4.out _).mono ?_); rintro e w' ⟨rfl, ⟨nd, rfl⟩⟩) | ((with_reducible refine (C2.out _).mono ?_); rintro e w' ⟨rfl, ⟨nd, rfl⟩⟩))
    | (go_at_call 32; (with_reducible refine (C3.out _).mono ?_); rintro e w' ⟨rfl, ⟨nd, rfl⟩⟩)
    | (go_at_call 31; (with_reducible refine (CQ.out _).mono ?_); rintro e w' ⟨rfl, rfl⟩)
    | (go_at_call 29; (with_reducible refine (CB.out _).mono ?_); rintro e w1 ⟨rfl, hb1⟩; obtain ⟨hc9, hf9⟩ := bcell hb1))
  clear hc9 hf9
  have hblk := Lib.hid (blk_new w (.cells #[.int .i64 0, .slice none 0 0, .int .u32 0, .int .i64 0, .string ⟨#[]⟩, .bool false, .string ⟨#[]⟩] 28))
  have hbel := Lib.hid (below_alloc (Below.refl w.heap.size w) (.cells #[.int .i64 0, .slice none 0 0, .int .u32 0, .int .i64 0, .string ⟨#[]⟩, .bool false, .string ⟨#[]⟩] 28))
  generalize w.alloc (.cells #[.int .i64 0, .slice none 0 0, .int .u32 0, .int .i64 0, .string ⟨#[]⟩, .bool false, .string ⟨#[]⟩] 28) = wa at *
  refine bodyPost_ret (results_ct (p := 2) (u := 3) (ty := 28) (fn := Tryd.f30) ?h0 _ _ w.heap.size 28 #[.int .i64 8, .slice none 0 0, .int .u32 0, .int .i64 0, .string ⟨#[]⟩, .bool false, .string fmtB] (0, 0) _ ?h1 ?h2 Tryd.underlying28 rfl (by kernel_rfl)) ?h3 ?h4
  case h0 => rfl
  case h1 => rfl
  case h3 => rfl
  case h2 =>
    refine put7 (c0 := .int .i64 0) (c1 := .slice none 0 0) (c2 := .int .u32 0) (c3 := .int .i64 0) (c4 := .string ⟨#[]⟩) (c5 := .bool false) (c6 := .string ⟨#[]⟩) ?_
    refine blk_below ?_ hb1
    repeat (with_reducible first | exact hblk.out | apply far1 | apply blk_drewN | apply blk_alloc)
  case h4 =>
    refine ⟨rfl, ?_⟩
    repeat (first | (with_reducible first | exact hbel.out | apply below_alloc | apply pw_below_drewN) | refine below_set ?_ (by omega) | refine below_step ?_ hb1)
set_option maxRecDepth 100000 in
set_option maxHeartbeats 1600000 in
theorem set_k_5 (g cap : Nat) (s1 s2 s3 s4 s5 : ByteArray) (w : World) (hg : g < w.heap.size) (hcap : 5 ≤ cap) (x4 : w.cell? ⟨g, 4, none⟩ = some (.string s4)) (hb4 : amtB s4 = true) (hd : decide (amtV s4 < 0) = false) (x2 : w.cell? ⟨g, 2, none⟩ = some (.string s2)) (x3 : w.cell? ⟨g, 3, none⟩ = some (.string s3)) (z3 : s3.size ≤ 1000000) (hb2 : amtB s2 = true) (hb3 : momB s3 = true) (x1 : w.cell? ⟨g, 1, none⟩ = some (.string s1)) (z1 : s1.size ≤ 1000000) (hb1 : keyP s1 = false) :
    Calls Tryd.prog 30 #[.slice (some ⟨g, 0, none⟩) 5 cap] w fun e w' => e = .returned (.tuple #[.agg #[.int .i64 8, .slice none 0 0, .int .u32 0, .int .i64 0, .string ⟨#[]⟩, .bool false, .string fmtB], .int .i64 (amtV s4)]) ∧ Below w.heap.size w w' := by
  have CQ : Hid (∀ w, Calls Tryd.prog 31 #[.slice (some ⟨g, 0, none⟩) 5 cap, .int .i64 5] w fun e w' => e = .returned (.tuple #[.slice (some ⟨g, 0, none⟩) 5 cap, .bool false]) ∧ w = w') := Lib.hid (fun w => quiet_ne g 5 cap 5 w (by omega) (by omega))
  have C4 := Lib.hid (fun w => amount_c s4 w)
  rw [hb4] at C4
  have C2 := Lib.hid (fun w => amount_c s2 w)
  rw [hb2] at C2
  have C3 := Lib.hid (fun w => moment_c s3 z3 w)
  rw [hb3] at C3
  have C1 := Lib.hid (fun w => key_c s1 z1 w)
  rw [hb1] at C1
  clear hb4 hb2 hb3 hb1
  have CB := Lib.hid (fun w => bad_fmt w)
  go_enter Tryd.func30, Tryd.ntmps30
  go_wp2_with (first
    | (go_at_call 35; first | ((with_reducible refine (C4.out _).mono ?_); rintro e w' ⟨rfl, ⟨nd, rfl⟩⟩) | ((with_reducible refine (C2.out _).mono ?_); rintro e w' ⟨rfl, ⟨nd, rfl⟩⟩))
    | (go_at_call 32; (with_reducible refine (C3.out _).mono ?_); rintro e w' ⟨rfl, ⟨nd, rfl⟩⟩)
    | (go_at_call 36; (with_reducible refine (C1.out _).mono ?_); rintro e w' ⟨rfl, ⟨nd, rfl⟩⟩)
    | (go_at_call 31; (with_reducible refine (CQ.out _).mono ?_); rintro e w' ⟨rfl, rfl⟩)
    | (go_at_call 29; (with_reducible refine (CB.out _).mono ?_); rintro e w1 ⟨rfl, hb1⟩; obtain ⟨hc9, hf9⟩ := bcell hb1))
  clear hc9 hf9
  have hblk := Lib.hid (blk_new w (.cells #[.int .i64 0, .slice none 0 0, .int .u32 0, .int .i64 0, .string ⟨#[]⟩, .bool false, .string ⟨#[]⟩] 28))
  have hbel := Lib.hid (below_alloc (Below.refl w.heap.size w) (.cells #[.int .i64 0, .slice none 0 0, .int .u32 0, .int .i64 0, .string ⟨#[]⟩, .bool false, .string ⟨#[]⟩] 28))
  generalize w.alloc (.cells #[.int .i64 0, .slice none 0 0, .int .u32 0, .int .i64 0, .string ⟨#[]⟩, .bool false, .string ⟨#[]⟩] 28) = wa at *
  refine bodyPost_ret (results_ct (p := 2) (u := 3) (ty := 28) (fn := Tryd.f30) ?h0 _ _ w.heap.size 28 #[.int .i64 8, .slice none 0 0, .int .u32 0, .int .i64 0, .string ⟨#[]⟩, .bool false, .string fmtB] (0, 0) _ ?h1 ?h2 Tryd.underlying28 rfl (by kernel_rfl)) ?h3 ?h4
  case h0 => rfl
  case h1 => rfl
  case h3 => rfl
  case h2 =>
    refine put7 (c0 := .int .i64 0) (c1 := .slice none 0 0) (c2 := .int .u32 0) (c3 := .int .i64 0) (c4 := .string ⟨#[]⟩) (c5 := .bool false) (c6 := .string ⟨#[]⟩) ?_
    refine blk_below ?_ hb1
    repeat (with_reducible first | exact hblk.out | apply far1 | apply blk_drewN | apply blk_alloc)
  case h4 =>
    refine ⟨rfl, ?_⟩
    repeat (first | (with_reducible first | exact hbel.out | apply below_alloc | apply pw_below_drewN) | refine below_set ?_ (by omega) | refine below_step ?_ hb1)
set_option maxRecDepth 100000 in
set_option maxHeartbeats 1600000 in
theorem set_big_5 (g cap : Nat) (s1 s2 s3 s4 s5 : ByteArray) (w : World) (hg : g < w.heap.size) (hcap : 5 ≤ cap) (x4 : w.cell? ⟨g, 4, none⟩ = some (.string s4)) (hb4 : amtB s4 = true) (hd : decide (amtV s4 < 0) = false) (x2 : w.cell? ⟨g, 2, none⟩ = some (.string s2)) (x3 : w.cell? ⟨g, 3, none⟩ = some (.string s3)) (z3 : s3.size ≤ 1000000) (hb2 : amtB s2 = true) (hb3 : momB s3 = true) (x1 : w.cell? ⟨g, 1, none⟩ = some (.string s1)) (z1 : s1.size ≤ 1000000) (hb1 : keyP s1 = true) (hd2 : decide (1024 < amtV s4) = true) :
    Calls Tryd.prog 30 #[.slice (some ⟨g, 0, none⟩) 5 cap] w fun e w' => e = .returned (.tuple #[.agg #[.int .i64 8, .slice none 0 0, .int .u32 0, .int .i64 0, .string ⟨#[]⟩, .bool false, .string bigB], .int .i64 (amtV s4)]) ∧ Below w.heap.size w w' := by
  have CQ : Hid (∀ w, Calls Tryd.prog 31 #[.slice (some ⟨g, 0, none⟩) 5 cap, .int .i64 5] w fun e w' => e = .returned (.tuple #[.slice (some ⟨g, 0, none⟩) 5 cap, .bool false]) ∧ w = w') := Lib.hid (fun w => quiet_ne g 5 cap 5 w (by omega) (by omega))
  have C4 := Lib.hid (fun w => amount_c s4 w)
  rw [hb4] at C4
  have C2 := Lib.hid (fun w => amount_c s2 w)
  rw [hb2] at C2
  have C3 := Lib.hid (fun w => moment_c s3 z3 w)
  rw [hb3] at C3
  have C1 := Lib.hid (fun w => key_c s1 z1 w)
  rw [hb1] at C1
  clear hb4 hb2 hb3 hb1
  have CB := Lib.hid (fun w => bad_big w)
  go_enter Tryd.func30, Tryd.ntmps30
  go_wp2_with (first
    | (go_at_call 35; first | ((with_reducible refine (C4.out _).mono ?_); rintro e w' ⟨rfl, ⟨nd, rfl⟩⟩) | ((with_reducible refine (C2.out _).mono ?_); rintro e w' ⟨rfl, ⟨nd, rfl⟩⟩))
    | (go_at_call 32; (with_reducible refine (C3.out _).mono ?_); rintro e w' ⟨rfl, ⟨nd, rfl⟩⟩)
    | (go_at_call 36; (with_reducible refine (C1.out _).mono ?_); rintro e w' ⟨rfl, ⟨nd, rfl⟩⟩)
    | (go_at_call 31; (with_reducible refine (CQ.out _).mono ?_); rintro e w' ⟨rfl, rfl⟩)
    | (go_at_call 29; (with_reducible refine (CB.out _).mono ?_); rintro e w1 ⟨rfl, hb1⟩; obtain ⟨hc9, hf9⟩ := bcell hb1))
  clear hc9 hf9
  have hblk := Lib.hid (blk_new w (.cells #[.int .i64 0, .slice none 0 0, .int .u32 0, .int .i64 0, .string ⟨#[]⟩, .bool false, .string ⟨#[]⟩] 28))
  have hbel := Lib.hid (below_alloc (Below.refl w.heap.size w) (.cells #[.int .i64 0, .slice none 0 0, .int .u32 0, .int .i64 0, .string ⟨#[]⟩, .bool false, .string ⟨#[]⟩] 28))
  generalize w.alloc (.cells #[.int .i64 0, .slice none 0 0, .int .u32 0, .int .i64 0, .string ⟨#[]⟩, .bool false, .string ⟨#[]⟩] 28) = wa at *
  refine bodyPost_ret (results_ct (p := 2) (u := 3) (ty := 28) (fn := Tryd.f30) ?h0 _ _ w.heap.size 28 #[.int .i64 8, .slice none 0 0, .int .u32 0, .int .i64 0, .string ⟨#[]⟩, .bool false, .string bigB] (0, 0) _ ?h1 ?h2 Tryd.underlying28 rfl (by kernel_rfl)) ?h3 ?h4
  case h0 => rfl
  case h1 => rfl
  case h3 => rfl
  case h2 =>
    refine put7 (c0 := .int .i64 0) (c1 := .slice none 0 0) (c2 := .int .u32 0) (c3 := .int .i64 0) (c4 := .string ⟨#[]⟩) (c5 := .bool false) (c6 := .string ⟨#[]⟩) ?_
    refine blk_below ?_ hb1
    repeat (with_reducible first | exact hblk.out | apply far1 | apply blk_drewN | apply blk_alloc)
  case h4 =>
    refine ⟨rfl, ?_⟩
    repeat (first | (with_reducible first | exact hbel.out | apply below_alloc | apply pw_below_drewN) | refine below_set ?_ (by omega) | refine below_step ?_ hb1)
set_option maxRecDepth 100000 in
set_option maxHeartbeats 1600000 in
theorem set_ok_5 (g cap : Nat) (s1 s2 s3 s4 s5 : ByteArray) (w : World) (hg : g < w.heap.size) (hcap : 5 ≤ cap) (x4 : w.cell? ⟨g, 4, none⟩ = some (.string s4)) (hb4 : amtB s4 = true) (hd : decide (amtV s4 < 0) = false) (x2 : w.cell? ⟨g, 2, none⟩ = some (.string s2)) (x3 : w.cell? ⟨g, 3, none⟩ = some (.string s3)) (z3 : s3.size ≤ 1000000) (hb2 : amtB s2 = true) (hb3 : momB s3 = true) (x1 : w.cell? ⟨g, 1, none⟩ = some (.string s1)) (z1 : s1.size ≤ 1000000) (hb1 : keyP s1 = true) (hd2 : decide (1024 < amtV s4) = false) (hf : 0 ≤ amtV s2 ∧ amtV s2 < 4294967296) :
    Calls Tryd.prog 30 #[.slice (some ⟨g, 0, none⟩) 5 cap] w fun e w' => e = .returned (.tuple #[.agg #[.int .i64 2, .slice (some ⟨g, 1, none⟩) 1 (cap - 1), .int .u32 (amtV s2), .int .i64 (momV s3), .string ⟨#[]⟩, .bool false, .string ⟨#[]⟩], .int .i64 (amtV s4)]) ∧ Below w.heap.size w w' := by
  have CQ : Hid (∀ w, Calls Tryd.prog 31 #[.slice (some ⟨g, 0, none⟩) 5 cap, .int .i64 5] w fun e w' => e = .returned (.tuple #[.slice (some ⟨g, 0, none⟩) 5 cap, .bool false]) ∧ w = w') := Lib.hid (fun w => quiet_ne g 5 cap 5 w (by omega) (by omega))
  have C4 := Lib.hid (fun w => amount_c s4 w)
  rw [hb4] at C4
  have C2 := Lib.hid (fun w => amount_c s2 w)
  rw [hb2] at C2
  have C3 := Lib.hid (fun w => moment_c s3 z3 w)
  rw [hb3] at C3
  have C1 := Lib.hid (fun w => key_c s1 z1 w)
  rw [hb1] at C1
  clear hb4 hb2 hb3 hb1
  go_enter Tryd.func30, Tryd.ntmps30
  go_wp2_with (first
    | (go_at_call 35; first | ((with_reducible refine (C4.out _).mono ?_); rintro e w' ⟨rfl, ⟨nd, rfl⟩⟩) | ((with_reducible refine (C2.out _).mono ?_); rintro e w' ⟨rfl, ⟨nd, rfl⟩⟩))
    | (go_at_call 32; (with_reducible refine (C3.out _).mono ?_); rintro e w' ⟨rfl, ⟨nd, rfl⟩⟩)
    | (go_at_call 36; (with_reducible refine (C1.out _).mono ?_); rintro e w' ⟨rfl, ⟨nd, rfl⟩⟩)
    | (go_at_call 31; (with_reducible refine (CQ.out _).mono ?_); rintro e w' ⟨rfl, rfl⟩))
  have hblk := Lib.hid (blk_new w (.cells #[.int .i64 0, .slice none 0 0, .int .u32 0, .int .i64 0, .string ⟨#[]⟩, .bool false, .string ⟨#[]⟩] 28))
  have hbel := Lib.hid (below_alloc (Below.refl w.heap.size w) (.cells #[.int .i64 0, .slice none 0 0, .int .u32 0, .int .i64 0, .string ⟨#[]⟩, .bool false, .string ⟨#[]⟩] 28))
  generalize w.alloc (.cells #[.int .i64 0, .slice none 0 0, .int .u32 0, .int .i64 0, .string ⟨#[]⟩, .bool false, .string ⟨#[]⟩] 28) = wa at *
  refine bodyPost_ret (results_ct (p := 2) (u := 3) (ty := 28) (fn := Tryd.f30) ?h0 _ _ w.heap.size 28 #[.int .i64 2, .slice (some ⟨g, 1, none⟩) 1 (cap - 1), .int .u32 (amtV s2), .int .i64 (momV s3), .string ⟨#[]⟩, .bool false, .string ⟨#[]⟩] (0, 0) _ ?h1 ?h2 Tryd.underlying28 rfl (by kernel_rfl)) ?h3 ?h4
  case h0 => rfl
  case h1 => rfl
  case h3 => rfl
  case h2 =>
    refine put7 (c0 := .int .i64 0) (c1 := .slice none 0 0) (c2 := .int .u32 0) (c3 := .int .i64 0) (c4 := .string ⟨#[]⟩) (c5 := .bool false) (c6 := .string ⟨#[]⟩) ?_
    repeat (with_reducible first | exact hblk.out | apply far1 | apply blk_drewN | apply blk_alloc)
  case h4 =>
    refine ⟨rfl, ?_⟩
    repeat (first | (with_reducible first | exact hbel.out | apply below_alloc | apply pw_below_drewN) | refine below_set ?_ (by omega))
set_option maxRecDepth 100000 in
set_option maxHeartbeats 1600000 in
theorem set_a_yes (g cap : Nat) (s1 s2 s3 s4 s5 : ByteArray) (w : World) (hg : g < w.heap.size) (hcap : 6 ≤ cap) (x4 : w.cell? ⟨g, 4, none⟩ = some (.string s4)) (hb4 : amtB s4 = true) (x5 : w.cell? ⟨g, 5, none⟩ = some (.string s5)) (hs5 : (s5.toList == [110, 111, 114, 101, 112, 108, 121]) = true) (hd : decide (amtV s4 < 0) = false) (x2 : w.cell? ⟨g, 2, none⟩ = some (.string s2)) (x3 : w.cell? ⟨g, 3, none⟩ = some (.string s3)) (z3 : s3.size ≤ 1000000) (hb2 : amtB s2 = false) :
    Calls Tryd.prog 30 #[.slice (some ⟨g, 0, none⟩) 6 cap] w fun e w' => e = .returned (.tuple #[.agg #[.int .i64 8, .slice none 0 0, .int .u32 0, .int .i64 0, .string ⟨#[]⟩, .bool false, .string fmtB], .int .i64 (amtV s4)]) ∧ Below w.heap.size w w' := by
  have CQ : Hid (∀ w : World, w.cell? ⟨g, 5, none⟩ = some (.string s5) → Calls Tryd.prog 31 #[.slice (some ⟨g, 0, none⟩) 6 cap, .int .i64 5] w fun e w' => e = .returned (.tuple #[.slice (some ⟨g, 0, none⟩) 5 cap, .bool true]) ∧ w = w') := Lib.hid (fun w hc => quiet_yes g cap 5 s5 w hc hs5 (by omega) (by omega))
  clear hs5
  have C4 := Lib.hid (fun w => amount_c s4 w)
  rw [hb4] at C4
  have C2 := Lib.hid (fun w => amount_c s2 w)
  rw [hb2] at C2
  have C3 := Lib.hid (fun w => moment_c s3 z3 w)
  clear hb4 hb2
  have CB := Lib.hid (fun w => bad_fmt w)
  go_enter Tryd.func30, Tryd.ntmps30
  go_wp2_with (first
    | (go_at_call 35; first | ((with_reducible refine (C4.out _).mono ?_); rintro e w' ⟨rfl, ⟨nd, rfl⟩⟩) | ((with_reducible refine (C2.out _).mono ?_); rintro e w' ⟨rfl, ⟨nd, rfl⟩⟩))
    | (go_at_call 32; (with_reducible refine (C3.out _).mono ?_); rintro e w' ⟨rfl, ⟨nd, rfl⟩⟩)
    | (go_at_call 31; (with_reducible refine (CQ.out _ (by go_simp)).mono ?_); rintro e w' ⟨rfl, rfl⟩)
    | (go_at_call 29; (with_reducible refine (CB.out _).mono ?_); rintro e w1 ⟨rfl, hb1⟩; obtain ⟨hc9, hf9⟩ := bcell hb1))
  clear hc9 hf9
  have hblk := Lib.hid (blk_new w (.cells #[.int .i64 0, .slice none 0 0, .int .u32 0, .int .i64 0, .string ⟨#[]⟩, .bool false, .string ⟨#[]⟩] 28))
  have hbel := Lib.hid (below_alloc (Below.refl w.heap.size w) (.cells #[.int .i64 0, .slice none 0 0, .int .u32 0, .int .i64 0, .string ⟨#[]⟩, .bool false, .string ⟨#[]⟩] 28))
  generalize w.alloc (.cells #[.int .i64 0, .slice none 0 0, .int .u32 0, .int .i64 0, .string ⟨#[]⟩, .bool false, .string ⟨#[]⟩] 28) = wa at *
  refine bodyPost_ret (results_ct (p := 2) (u := 3) (ty := 28) (fn := Tryd.f30) ?h0 _ _ w.heap.size 28 #[.int .i64 8, .slice none 0 0, .int .u32 0, .int .i64 0, .string ⟨#[]⟩, .bool false, .string fmtB] (0, 0) _ ?h1 ?h2 Tryd.underlying28 rfl (by kernel_rfl)) ?h3 ?h4
  case h0 => rfl
  case h1 => rfl
  case h3 => rfl
  case h2 =>
    refine put7 (c0 := .int .i64 0) (c1 := .slice none 0 0) (c2 := .int .u32 0) (c3 := .int .i64 0) (c4 := .string ⟨#[]⟩) (c5 := .bool false) (c6 := .string ⟨#[]⟩) ?_
    refine blk_below ?_ hb1
    repeat (with_reducible first | exact hblk.out | apply far1 | apply blk_drewN | apply blk_alloc)
  case h4 =>
    refine ⟨rfl, ?_⟩
    repeat (first | (with_reducible first | exact hbel.out | apply below_alloc | apply pw_below_drewN) | refine below_set ?_ (by omega) | refine below_step ?_ hb1)
set_option maxRecDepth 100000 in
set_option maxHeartbeats 1600000 in
theorem set_b_yes (g cap : Nat) (s1 s2 s3 s4 s5 : ByteArray) (w : World) (hg : g < w.heap.size) (hcap : 6 ≤ cap) (x4 : w.cell? ⟨g, 4, none⟩ = some (.string s4)) (hb4 : amtB s4 = true) (x5 : w.cell? ⟨g, 5, none⟩ = some (.string s5)) (hs5 : (s5.toList == [110, 111, 114, 101, 112, 108, 121]) = true) (hd : decide (amtV s4 < 0) = false) (x2 : w.cell? ⟨g, 2, none⟩ = some (.string s2)) (x3 : w.cell? ⟨g, 3, none⟩ = some (.string s3)) (z3 : s3.size ≤ 1000000) (hb2 : amtB s2 = true) (hb3 : momB s3 = false) :
    Calls Tryd.prog 30 #[.slice (some ⟨g, 0, none⟩) 6 cap] w fun e w' => e = .returned (.tuple #[.agg #[.int .i64 8, .slice none 0 0, .int .u32 0, .int .i64 0, .string ⟨#[]⟩, .bool false, .string fmtB], .int .i64 (amtV s4)]) ∧ Below w.heap.size w w' := by
  have CQ : Hid (∀ w : World, w.cell? ⟨g, 5, none⟩ = some (.string s5) → Calls Tryd.prog 31 #[.slice (some ⟨g, 0, none⟩) 6 cap, .int .i64 5] w fun e w' => e = .returned (.tuple #[.slice (some ⟨g, 0, none⟩) 5 cap, .bool true]) ∧ w = w') := Lib.hid (fun w hc => quiet_yes g cap 5 s5 w hc hs5 (by omega) (by omega))
  clear hs5
  have C4 := Lib.hid (fun w => amount_c s4 w)
  rw [hb4] at C4
  have C2 := Lib.hid (fun w => amount_c s2 w)
  rw [hb2] at C2
  have C3 := Lib.hid (fun w => moment_c s3 z3 w)
  rw [hb3] at C3
  clear hb4 hb2 hb3
  have CB := Lib.hid (fun w => bad_fmt w)
  go_enter Tryd.func30, Tryd.ntmps30
  go_wp2_with (first
    | (go_at_call 35; first | ((with_reducible refine (C4.out _).mono ?_); rintro e w' ⟨rfl, ⟨nd, rfl⟩⟩) | ((with_reducible refine (C2.out _).mono ?_); rintro e w' ⟨rfl, ⟨nd, rfl⟩⟩))
    | (go_at_call 32; (with_reducible refine (C3.out _).mono ?_); rintro e w' ⟨rfl, ⟨nd, rfl⟩⟩)
    | (go_at_call 31; (with_reducible refine (CQ.out _ (by go_simp)).mono ?_); rintro e w' ⟨rfl, rfl⟩)
    | (go_at_call 29; (with_reducible refine (CB.out _).mono ?_); rintro e w1 ⟨rfl, hb1⟩; obtain ⟨hc9, hf9⟩ := bcell hb1))
  clear hc9 hf9
  have hblk := Lib.hid (blk_new w (.cells #[.int .i64 0, .slice none 0 0, .int .u32 0, .int .i64 0, .string ⟨#[]⟩, .bool false, .string ⟨#[]⟩] 28))
  have hbel := Lib.hid (below_alloc (Below.refl w.heap.size w) (.cells #[.int .i64 0, .slice none 0 0, .int .u32 0, .int .i64 0, .string ⟨#[]⟩, .bool false, .string ⟨#[]⟩] 28))
  generalize w.alloc (.cells #[.int .i64 0, .slice none 0 0, .int .u32 0, .int .i64 0, .string ⟨#[]⟩, .bool false, .string ⟨#[]⟩] 28) = wa at *
  refine bodyPost_ret (results_ct (p := 2) (u := 3) (ty := 28) (fn := Tryd.f30) ?h0 _ _ w.heap.size 28 #[.int .i64 8, .slice none 0 0, .int .u32 0, .int .i64 0, .string ⟨#[]⟩, .bool false, .string fmtB] (0, 0) _ ?h1 ?h2 Tryd.underlying28 rfl (by kernel_rfl)) ?h3 ?h4
  case h0 => rfl
  case h1 => rfl
  case h3 => rfl
  case h2 =>
    refine put7 (c0 := .int .i64 0) (c1 := .slice none 0 0) (c2 := .int .u32 0) (c3 := .int .i64 0) (c4 := .string ⟨#[]⟩) (c5 := .bool false) (c6 := .string ⟨#[]⟩) ?_
    refine blk_below ?_ hb1
    repeat (with_reducible first | exact hblk.out | apply far1 | apply blk_drewN | apply blk_alloc)
  case h4 =>
    refine ⟨rfl, ?_⟩
    repeat (first | (with_reducible first | exact hbel.out | apply below_alloc | apply pw_below_drewN) | refine below_set ?_ (by omega) | refine below_step ?_ hb1)
set_option maxRecDepth 100000 in
set_option maxHeartbeats 1600000 in
theorem set_k_yes (g cap : Nat) (s1 s2 s3 s4 s5 : ByteArray) (w : World) (hg : g < w.heap.size) (hcap : 6 ≤ cap) (x4 : w.cell? ⟨g, 4, none⟩ = some (.string s4)) (hb4 : amtB s4 = true) (x5 : w.cell? ⟨g, 5, none⟩ = some (.string s5)) (hs5 : (s5.toList == [110, 111, 114, 101, 112, 108, 121]) = true) (hd : decide (amtV s4 < 0) = false) (x2 : w.cell? ⟨g, 2, none⟩ = some (.string s2)) (x3 : w.cell? ⟨g, 3, none⟩ = some (.string s3)) (z3 : s3.size ≤ 1000000) (hb2 : amtB s2 = true) (hb3 : momB s3 = true) (x1 : w.cell? ⟨g, 1, none⟩ = some (.string s1)) (z1 : s1.size ≤ 1000000) (hb1 : keyP s1 = false) :
    Calls Tryd.prog 30 #[.slice (some ⟨g, 0, none⟩) 6 cap] w fun e w' => e = .returned (.tuple #[.agg #[.int .i64 8, .slice none 0 0, .int .u32 0, .int .i64 0, .string ⟨#[]⟩, .bool false, .string fmtB], .int .i64 (amtV s4)]) ∧ Below w.heap.size w w' := by
  have CQ : Hid (∀ w : World, w.cell? ⟨g, 5, none⟩ = some (.string s5) → Calls Tryd.prog 31 #[.slice (some ⟨g, 0, none⟩) 6 cap, .int .i64 5] w fun e w' => e = .returned (.tuple #[.slice (some ⟨g, 0, none⟩) 5 cap, .bool true]) ∧ w = w') := Lib.hid (fun w hc => quiet_yes g cap 5 s5 w hc hs5 (by omega) (by omega))
  clear hs5
  have C4 := Lib.hid (fun w => amount_c s4 w)
  rw [hb4] at C4
  have C2 := Lib.hid (fun w => amount_c s2 w)
  rw [hb2] at C2
  have C3 := Lib.hid (fun w => moment_c s3 z3 w)
  rw [hb3] at C3
  have C1 := Lib.hid (fun w => key_c s1 z1 w)
  rw [hb1] at C1
  clear hb4 hb2 hb3 hb1
  have CB := Lib.hid (fun w => bad_fmt w)
  go_enter Tryd.func30, Tryd.ntmps30
  go_wp2_with (first
    | (go_at_call 35; first | ((with_reducible refine (C4.out _).mono ?_); rintro e w' ⟨rfl, ⟨nd, rfl⟩⟩) | ((with_reducible refine (C2.out _).mono ?_); rintro e w' ⟨rfl, ⟨nd, rfl⟩⟩))
    | (go_at_call 32; (with_reducible refine (C3.out _).mono ?_); rintro e w' ⟨rfl, ⟨nd, rfl⟩⟩)
    | (go_at_call 36; (with_reducible refine (C1.out _).mono ?_); rintro e w' ⟨rfl, ⟨nd, rfl⟩⟩)
    | (go_at_call 31; (with_reducible refine (CQ.out _ (by go_simp)).mono ?_); rintro e w' ⟨rfl, rfl⟩)
    | (go_at_call 29; (with_reducible refine (CB.out _).mono ?_); rintro e w1 ⟨rfl, hb1⟩; obtain ⟨hc9, hf9⟩ := bcell hb1))
  clear hc9 hf9
  have hblk := Lib.hid (blk_new w (.cells #[.int .i64 0, .slice none 0 0, .int .u32 0, .int .i64 0, .string ⟨#[]⟩, .bool false, .string ⟨#[]⟩] 28))
  have hbel := Lib.hid (below_alloc (Below.refl w.heap.size w) (.cells #[.int .i64 0, .slice none 0 0, .int .u32 0, .int .i64 0, .string ⟨#[]⟩, .bool false, .string ⟨#[]⟩] 28))
  generalize w.alloc (.cells #[.int .i64 0, .slice none 0 0, .int .u32 0, .int .i64 0, .string ⟨#[]⟩, .bool false, .string ⟨#[]⟩] 28) = wa at *
  refine bodyPost_ret (results_ct (p := 2) (u := 3) (ty := 28) (fn := Tryd.f30) ?h0 _ _ w.heap.size 28 #[.int .i64 8, .slice none 0 0, .int .u32 0, .int .i64 0, .string ⟨#[]⟩, .bool false, .string fmtB] (0, 0) _ ?h1 ?h2 Tryd.underlying28 rfl (by kernel_rfl)) ?h3 ?h4
  case h0 => rfl
  case h1 => rfl
  case h3 => rfl
  case h2 =>
    refine put7 (c0 := .int .i64 0) (c1 := .slice none 0 0) (c2 := .int .u32 0) (c3 := .int .i64 0) (c4 := .string ⟨#[]⟩) (c5 := .bool false) (c6 := .string ⟨#[]⟩) ?_
    refine blk_below ?_ hb1
    repeat (with_reducible first | exact hblk.out | apply far1 | apply blk_drewN | apply blk_alloc)
  case h4 =>
    refine ⟨rfl, ?_⟩
    repeat (first | (with_reducible first | exact hbel.out | apply below_alloc | apply pw_below_drewN) | refine below_set ?_ (by omega) | refine below_step ?_ hb1)
set_option maxRecDepth 100000 in
set_option maxHeartbeats 1600000 in
theorem set_big_yes (g cap : Nat) (s1 s2 s3 s4 s5 : ByteArray) (w : World) (hg : g < w.heap.size) (hcap : 6 ≤ cap) (x4 : w.cell? ⟨g, 4, none⟩ = some (.string s4)) (hb4 : amtB s4 = true) (x5 : w.cell? ⟨g, 5, none⟩ = some (.string s5)) (hs5 : (s5.toList == [110, 111, 114, 101, 112, 108, 121]) = true) (hd : decide (amtV s4 < 0) = false) (x2 : w.cell? ⟨g, 2, none⟩ = some (.string s2)) (x3 : w.cell? ⟨g, 3, none⟩ = some (.string s3)) (z3 : s3.size ≤ 1000000) (hb2 : amtB s2 = true) (hb3 : momB s3 = true) (x1 : w.cell? ⟨g, 1, none⟩ = some (.string s1)) (z1 : s1.size ≤ 1000000) (hb1 : keyP s1 = true) (hd2 : decide (1024 < amtV s4) = true) :
    Calls Tryd.prog 30 #[.slice (some ⟨g, 0, none⟩) 6 cap] w fun e w' => e = .returned (.tuple #[.agg #[.int .i64 8, .slice none 0 0, .int .u32 0, .int .i64 0, .string ⟨#[]⟩, .bool false, .string bigB], .int .i64 (amtV s4)]) ∧ Below w.heap.size w w' := by
  have CQ : Hid (∀ w : World, w.cell? ⟨g, 5, none⟩ = some (.string s5) → Calls Tryd.prog 31 #[.slice (some ⟨g, 0, none⟩) 6 cap, .int .i64 5] w fun e w' => e = .returned (.tuple #[.slice (some ⟨g, 0, none⟩) 5 cap, .bool true]) ∧ w = w') := Lib.hid (fun w hc => quiet_yes g cap 5 s5 w hc hs5 (by omega) (by omega))
  clear hs5
  have C4 := Lib.hid (fun w => amount_c s4 w)
  rw [hb4] at C4
  have C2 := Lib.hid (fun w => amount_c s2 w)
  rw [hb2] at C2
  have C3 := Lib.hid (fun w => moment_c s3 z3 w)
  rw [hb3] at C3
  have C1 := Lib.hid (fun w => key_c s1 z1 w)
  rw [hb1] at C1
  clear hb4 hb2 hb3 hb1
  have CB := Lib.hid (fun w => bad_big w)
  go_enter Tryd.func30, Tryd.ntmps30
  go_wp2_with (first
    | (go_at_call 35; first | ((with_reducible refine (C4.out _).mono ?_); rintro e w' ⟨rfl, ⟨nd, rfl⟩⟩) | ((with_reducible refine (C2.out _).mono ?_); rintro e w' ⟨rfl, ⟨nd, rfl⟩⟩))
    | (go_at_call 32; (with_reducible refine (C3.out _).mono ?_); rintro e w' ⟨rfl, ⟨nd, rfl⟩⟩)
    | (go_at_call 36; (with_reducible refine (C1.out _).mono ?_); rintro e w' ⟨rfl, ⟨nd, rfl⟩⟩)
    | (go_at_call 31; (with_reducible refine (CQ.out _ (by go_simp)).mono ?_); rintro e w' ⟨rfl, rfl⟩)
    | (go_at_call 29; (with_reducible refine (CB.out _).mono ?_); rintro e w1 ⟨rfl, hb1⟩; obtain ⟨hc9, hf9⟩ := bcell hb1))
  clear hc9 hf9
  have hblk := Lib.hid (blk_new w (.cells #[.int .i64 0, .slice none 0 0, .int .u32 0, .int .i64 0, .string ⟨#[]⟩, .bool false, .string ⟨#[]⟩] 28))
  have hbel := Lib.hid (below_alloc (Below.refl w.heap.size w) (.cells #[.int .i64 0, .slice none 0 0, .int .u32 0, .int .i64 0, .string ⟨#[]⟩, .bool false, .string ⟨#[]⟩] 28))
  generalize w.alloc (.cells #[.int .i64 0, .slice none 0 0, .int .u32 0, .int .i64 0, .string ⟨#[]⟩, .bool false, .string ⟨#[]⟩] 28) = wa at *
  refine bodyPost_ret (results_ct (p := 2) (u := 3) (ty := 28) (fn := Tryd.f30) ?h0 _ _ w.heap.size 28 #[.int .i64 8, .slice none 0 0, .int .u32 0, .int .i64 0, .string ⟨#[]⟩, .bool false, .string bigB] (0, 0) _ ?h1 ?h2 Tryd.underlying28 rfl (by kernel_rfl)) ?h3 ?h4
  case h0 => rfl
  case h1 => rfl
  case h3 => rfl
  case h2 =>
    refine put7 (c0 := .int .i64 0) (c1 := .slice none 0 0) (c2 := .int .u32 0) (c3 := .int .i64 0) (c4 := .string ⟨#[]⟩) (c5 := .bool false) (c6 := .string ⟨#[]⟩) ?_
    refine blk_below ?_ hb1
    repeat (with_reducible first | exact hblk.out | apply far1 | apply blk_drewN | apply blk_alloc)
  case h4 =>
    refine ⟨rfl, ?_⟩
    repeat (first | (with_reducible first | exact hbel.out | apply below_alloc | apply pw_below_drewN) | refine below_set ?_ (by omega) | refine below_step ?_ hb1)
set_option maxRecDepth 100000 in
set_option maxHeartbeats 1600000 in
theorem set_ok_yes (g cap : Nat) (s1 s2 s3 s4 s5 : ByteArray) (w : World) (hg : g < w.heap.size) (hcap : 6 ≤ cap) (x4 : w.cell? ⟨g, 4, none⟩ = some (.string s4)) (hb4 : amtB s4 = true) (x5 : w.cell? ⟨g, 5, none⟩ = some (.string s5)) (hs5 : (s5.toList == [110, 111, 114, 101, 112, 108, 121]) = true) (hd : decide (amtV s4 < 0) = false) (x2 : w.cell? ⟨g, 2, none⟩ = some (.string s2)) (x3 : w.cell? ⟨g, 3, none⟩ = some (.string s3)) (z3 : s3.size ≤ 1000000) (hb2 : amtB s2 = true) (hb3 : momB s3 = true) (x1 : w.cell? ⟨g, 1, none⟩ = some (.string s1)) (z1 : s1.size ≤ 1000000) (hb1 : keyP s1 = true) (hd2 : decide (1024 < amtV s4) = false) (hf : 0 ≤ amtV s2 ∧ amtV s2 < 4294967296) :
    Calls Tryd.prog 30 #[.slice (some ⟨g, 0, none⟩) 6 cap] w fun e w' => e = .returned (.tuple #[.agg #[.int .i64 2, .slice (some ⟨g, 1, none⟩) 1 (cap - 1), .int .u32 (amtV s2), .int .i64 (momV s3), .string ⟨#[]⟩, .bool true, .string ⟨#[]⟩], .int .i64 (amtV s4)]) ∧ Below w.heap.size w w' := by
  have CQ : Hid (∀ w : World, w.cell? ⟨g, 5, none⟩ = some (.string s5) → Calls Tryd.prog 31 #[.slice (some ⟨g, 0, none⟩) 6 cap, .int .i64 5] w fun e w' => e = .returned (.tuple #[.slice (some ⟨g, 0, none⟩) 5 cap, .bool true]) ∧ w = w') := Lib.hid (fun w hc => quiet_yes g cap 5 s5 w hc hs5 (by omega) (by omega))
  clear hs5
  have C4 := Lib.hid (fun w => amount_c s4 w)
  rw [hb4] at C4
  have C2 := Lib.hid (fun w => amount_c s2 w)
  rw [hb2] at C2
  have C3 := Lib.hid (fun w => moment_c s3 z3 w)
  rw [hb3] at C3
  have C1 := Lib.hid (fun w => key_c s1 z1 w)
  rw [hb1] at C1
  clear hb4 hb2 hb3 hb1
  go_enter Tryd.func30, Tryd.ntmps30
  go_wp2_with (first
    | (go_at_call 35; first | ((with_reducible refine (C4.out _).mono ?_); rintro e w' ⟨rfl, ⟨nd, rfl⟩⟩) | ((with_reducible refine (C2.out _).mono ?_); rintro e w' ⟨rfl, ⟨nd, rfl⟩⟩))
    | (go_at_call 32; (with_reducible refine (C3.out _).mono ?_); rintro e w' ⟨rfl, ⟨nd, rfl⟩⟩)
    | (go_at_call 36; (with_reducible refine (C1.out _).mono ?_); rintro e w' ⟨rfl, ⟨nd, rfl⟩⟩)
    | (go_at_call 31; (with_reducible refine (CQ.out _ (by go_simp)).mono ?_); rintro e w' ⟨rfl, rfl⟩))
  have hblk := Lib.hid (blk_new w (.cells #[.int .i64 0, .slice none 0 0, .int .u32 0, .int .i64 0, .string ⟨#[]⟩, .bool false, .string ⟨#[]⟩] 28))
  have hbel := Lib.hid (below_alloc (Below.refl w.heap.size w) (.cells #[.int .i64 0, .slice none 0 0, .int .u32 0, .int .i64 0, .string ⟨#[]⟩, .bool false, .string ⟨#[]⟩] 28))
  generalize w.alloc (.cells #[.int .i64 0, .slice none 0 0, .int .u32 0, .int .i64 0, .string ⟨#[]⟩, .bool false, .string ⟨#[]⟩] 28) = wa at *
  refine bodyPost_ret (results_ct (p := 2) (u := 3) (ty := 28) (fn := Tryd.f30) ?h0 _ _ w.heap.size 28 #[.int .i64 2, .slice (some ⟨g, 1, none⟩) 1 (cap - 1), .int .u32 (amtV s2), .int .i64 (momV s3), .string ⟨#[]⟩, .bool true, .string ⟨#[]⟩] (0, 0) _ ?h1 ?h2 Tryd.underlying28 rfl (by kernel_rfl)) ?h3 ?h4
  case h0 => rfl
  case h1 => rfl
  case h3 => rfl
  case h2 =>
    refine put7 (c0 := .int .i64 0) (c1 := .slice none 0 0) (c2 := .int .u32 0) (c3 := .int .i64 0) (c4 := .string ⟨#[]⟩) (c5 := .bool false) (c6 := .string ⟨#[]⟩) ?_
    repeat (with_reducible first | exact hblk.out | apply far1 | apply blk_drewN | apply blk_alloc)
  case h4 =>
    refine ⟨rfl, ?_⟩
    repeat (first | (with_reducible first | exact hbel.out | apply below_alloc | apply pw_below_drewN) | refine below_set ?_ (by omega))
end Go.Proofs.YthinmioognadpaaDoor.Cmd

/- cmd.words, cmd.keys and cmd.set as Parse meets them (own text). -/
namespace Go.Proofs.YthinmioognadpaaDoor.Cmd
open Go.RowKit Go.Proofs.YthinmioognadpaaDoorW.PrintWords Go.Proofs.YthinmioognadpaaDoorW.PrintLast Go.Proofs.YthinmioognadpaaDoorW.PrintMore Go.Proofs.YthinmioognadpaaDoor.PCmd Go.Proofs.YthinmioognadpaaDoor.Split
set_option linter.unusedVariables false
set_option linter.unusedSimpArgs false
/-! ### Words -/
/-- A line's words. -/
def wordsB (s : ByteArray) : List ByteArray := (splitB s).filter (fun x => !x.data.toList.isEmpty)
theorem words_l0 (l : List ByteArray) (hl : l.length ≤ 1000001) : ∀ (d i k : Nat) (acc : List ByteArray), l.length - i = d → i ≤ l.length → d < k → acc.length ≤ i →
    cmd_words.l0 k acc l (l.length : Int) (i : Int) = some (acc ++ (l.drop i).filter (fun x => !x.data.toList.isEmpty)) := by
  intro d
  induction d with
  | zero =>
    intro i k acc hd hi hk ha
    obtain ⟨k, rfl⟩ : ∃ m, k = m + 1 := ⟨k - 1, by omega⟩
    obtain rfl : i = l.length := by omega
    simp only [cmd_words.l0]
    rw [if_neg (by omega), List.drop_length, List.filter_nil, List.append_nil]
  | succ d ih =>
    intro i k acc hd hi hk ha
    obtain ⟨k, rfl⟩ : ∃ m, k = m + 1 := ⟨k - 1, by omega⟩
    have h1 : i < l.length := by omega
    have hr : rdOf ByteArray.empty l (i : Int) = l[i] := by
      unfold rdOf
      rw [Int.toNat_natCast, List.getD_eq_getElem?_getD, List.getElem?_eq_getElem h1]; rfl
    have e2 : wrap64 ((i : Int) + 1) = ((i + 1 : Nat) : Int) := by rw [w64 (by omega) (by omega)]; omega
    simp only [cmd_words.l0]
    rw [if_pos (by omega), if_pos (by omega), if_pos (by omega), hr, e2, List.drop_eq_getElem_cons h1, toList_eq]
    clear e2
    by_cases h2 : l[i].data.toList = []
    · rw [if_pos h2, List.filter_cons_of_neg (by simp [h2])]
      exact ih (i + 1) k acc (by omega) (by omega) (by omega) (by omega)
    · rw [if_neg h2, if_pos (by omega), List.filter_cons_of_pos (by simpa using h2)]
      have h := ih (i + 1) k (acc ++ [l[i]]) (by omega) (by omega) (by omega) (by rw [List.length_append]; simp; omega)
      rw [h, List.append_assoc]; rfl
theorem splitB_le (s : ByteArray) : (splitB s).length ≤ s.size + 1 := by
  rw [splitB_length]
  have h1 := List.count_le_length (a := (32 : UInt8)) (l := s.data.toList)
  rw [size_list] at h1
  omega
theorem words_is (s : ByteArray) (hs : s.size ≤ 1000000) (k : Nat) (hk : s.size + 2 ≤ k) : cmd_words.f k s = some (wordsB s) := by
  unfold cmd_words.f strings_Split.f
  rw [if_pos ⟨rfl, hs⟩, Option.bind_some]
  have hl := splitB_le s
  have h := words_l0 (splitB s) (by omega) (splitB s).length 0 k [] rfl (by omega) (by omega) (by simp)
  rw [List.nil_append, List.drop_zero] at h
  exact h
theorem words_size {s x : ByteArray} (h : x ∈ wordsB s) : x.size ≤ s.size := by
  unfold wordsB at h
  obtain ⟨h1, _⟩ := List.mem_filter.1 h
  unfold splitB at h1
  obtain ⟨y, hy, rfl⟩ := List.mem_map.1 h1
  have key : ∀ (l y : List UInt8), y ∈ splitS l → y.length ≤ l.length := by
    intro l
    induction l with
    | nil => intro y hy; simp [splitS] at hy; subst hy; simp
    | cons c r ih =>
      intro y hy
      unfold splitS at hy
      by_cases hc : c = 32
      · rw [if_pos hc] at hy
        rcases List.mem_cons.1 hy with rfl | h
        · simp
        · have := ih y h; simp; omega
      · rw [if_neg hc] at hy
        obtain ⟨h1, t1, e⟩ : ∃ h1 t1, splitS r = h1 :: t1 := by
          cases hx : splitS r with
          | nil => exact absurd hx (splitS_ne r)
          | cons a b => exact ⟨a, b, rfl⟩
        rw [e] at hy
        simp only [List.mem_cons] at hy
        rcases hy with rfl | h
        · have := ih h1 (by rw [e]; simp); simp; omega
        · have := ih y (by rw [e]; exact List.mem_cons_of_mem _ h); simp; omega
  have h2 := key _ _ hy
  rw [size_list] at h2
  exact h2
theorem words_c (s : ByteArray) (hs : s.size ≤ 1000000) (n : Nat) (hn : (wordsB s).length = n) (h0 : 0 < n) (w : World) : Calls Tryd.prog 28 #[.string s] w fun e w' => ∃ g cap, e = .returned (.slice (some ⟨g, 0, none⟩) n cap) ∧ n ≤ cap ∧ w.heap.size ≤ g ∧ g < w'.heap.size ∧ Hid (∀ i x, (wordsB s)[i]? = some x → w'.cell? ⟨g, i, none⟩ = some (.string x)) ∧ Hid (Kd.R Kd.string 9 w' w.heap.size (fun _ => True) (.slice (some ⟨g, 0, none⟩) n cap) (wordsB s)) ∧ Below w.heap.size w w' := by
  refine (cmd_words.calls (s.size + 2) s (wordsB s) w (words_is s hs _ (Nat.le_refl _))).mono ?_
  rintro e w' ⟨v, rfl, hR, hb⟩
  subst hn
  obtain ⟨g, cap, rfl, hg, hlt, _⟩ := Kd.R_form hR h0
  refine ⟨g, cap, rfl, (Kd.R_reads' hR).2.1, hg, hlt, Lib.hid (fun i x hx => ?_), Lib.hid hR, hb⟩
  have hi : i < (wordsB s).length := by
    rcases Nat.lt_or_ge i (wordsB s).length with h | h
    · exact h
    · rw [List.getElem?_eq_none h] at hx; cases hx
  obtain ⟨hc, _⟩ := Kd.R_celln (⟨#[]⟩ : ByteArray) hR (i : Int) (by omega) (by omega)
  rw [Int.toNat_natCast] at hc
  rw [hc]
  unfold rdOf
  rw [Int.toNat_natCast, List.getD_eq_getElem?_getD, hx]; rfl
theorem words_nil (s : ByteArray) (hs : s.size ≤ 1000000) (hn : wordsB s = []) (w : World) : Calls Tryd.prog 28 #[.string s] w fun e w' => ∃ A cap, e = .returned (.slice A 0 cap) ∧ Below w.heap.size w w' := by
  refine (cmd_words.calls (s.size + 2) s (wordsB s) w (words_is s hs _ (Nat.le_refl _))).mono ?_
  rintro e w' ⟨v, rfl, hR, hb⟩
  rw [hn] at hR
  obtain ⟨A, c, rfl, _, _⟩ := Kd.R_reads hR
  exact ⟨A, c, rfl, hb⟩
/-! ### Keys -/
theorem keys_l0 (l : List ByteArray) (hl : l.length ≤ 1000001) (hs : ∀ x, x ∈ l → x.size ≤ 1000000) : ∀ (d i k : Nat), l.length - i = d → i ≤ l.length → d + 1000001 < k →
    cmd_keys.l0 k l (l.length : Int) (i : Int) = some ((l.drop i).all keyP) := by
  intro d
  induction d with
  | zero =>
    intro i k hd hi hk
    obtain ⟨k, rfl⟩ : ∃ m, k = m + 1 := ⟨k - 1, by omega⟩
    obtain rfl : i = l.length := by omega
    simp only [cmd_keys.l0]
    rw [if_neg (by omega), List.drop_length]; rfl
  | succ d ih =>
    intro i k hd hi hk
    obtain ⟨k, rfl⟩ : ∃ m, k = m + 1 := ⟨k - 1, by omega⟩
    have h1 : i < l.length := by omega
    have hr : rdOf ByteArray.empty l (i : Int) = l[i] := by
      unfold rdOf
      rw [Int.toNat_natCast, List.getD_eq_getElem?_getD, List.getElem?_eq_getElem h1]; rfl
    have e2 : wrap64 ((i : Int) + 1) = ((i + 1 : Nat) : Int) := by rw [w64 (by omega) (by omega)]; omega
    have hz := hs l[i] (List.getElem_mem h1)
    simp only [cmd_keys.l0]
    rw [if_pos (by omega), if_pos (by omega), if_pos (by omega), hr, e2, List.drop_eq_getElem_cons h1, keyMay_is _ k hz (by omega), Option.bind_some, List.all_cons]
    clear e2
    cases h2 : keyP l[i] with
    | true => rw [if_pos rfl, Bool.true_and]; exact ih (i + 1) k (by omega) (by omega) (by omega)
    | false => rw [if_neg (by simp)]; rfl
theorem keys_is (l : List ByteArray) (hl : l.length ≤ 1000001) (hs : ∀ x, x ∈ l → x.size ≤ 1000000) : cmd_keys.f (l.length + 1000002) l = some (l.all keyP) := by
  unfold cmd_keys.f
  have h := keys_l0 l hl hs l.length 0 (l.length + 1000002) rfl (by omega) (by omega)
  rw [List.drop_zero] at h
  exact h
theorem keys_c (l : List ByteArray) (hl : l.length ≤ 1000001) (hs : ∀ x, x ∈ l → x.size ≤ 1000000) (A : Option Addr) (c : Nat) (w : World) (hC : Kd.C Kd.string w A l.length l) (hc : l.length ≤ c) :
    Calls Tryd.prog 33 #[.slice A l.length c] w fun e w' => e = .returned (.bool (l.all keyP)) ∧ Drawn0 w w' := cmd_keys.calls _ A c l _ w hC hc (keys_is l hl hs)
theorem keys_nil (w : World) : Calls Tryd.prog 33 #[.slice none 0 0] w fun e w' => e = .returned (.bool true) ∧ Drawn0 w w' :=
  keys_c [] (by simp) (fun x h => by simp at h) none 0 w (Kd.C_nil _ w) (Nat.le_refl _)
theorem Q_tail {w : World} {base g cap : Nat} {l : List ByteArray} {m : Nat} (hR : Kd.R Kd.string 9 w base (fun _ => True) (.slice (some ⟨g, 0, none⟩) l.length cap) l) (hm : 1 ≤ m) (hl : m ≤ l.length) (hc : 2 ≤ cap) :
    Kd.Q Kd.string 9 w base (fun _ => True) (.slice (some ⟨g, 1, none⟩) (m - 1) (cap - 1)) ((l.take m).drop 1) := by
  have h := Kd.Q_drop (k := 1) (Kd.Q_take (m := m) (Kd.Q_of_R hR) hl) (by rw [List.length_take]; omega)
  rw [if_neg (by omega)] at h
  exact h
theorem keys_tail {w : World} {base g cap : Nat} {l : List ByteArray} {m : Nat} (hR : Kd.R Kd.string 9 w base (fun _ => True) (.slice (some ⟨g, 0, none⟩) l.length cap) l) (hm : 1 ≤ m) (hl : m ≤ l.length) (hll : l.length ≤ 1000001) (hc : 2 ≤ cap) (hs : ∀ x, x ∈ l → x.size ≤ 1000000)
    (W : World) (hb : Below w.heap.size w W) : Calls Tryd.prog 33 #[.slice (some ⟨g, 1, none⟩) (m - 1) (cap - 1)] W fun e w' => e = .returned (.bool (((l.take m).drop 1).all keyP)) ∧ Drawn0 W w' := by
  have hQ := Kd.Q_below (Q_tail hR hm hl hc) hb
  obtain ⟨h1, h2, h3⟩ := Kd.Q_reads' hQ
  have h4 := keys_c ((l.take m).drop 1) (by rw [← h1]; omega) (fun x hx => hs x (List.mem_of_mem_take (List.mem_of_mem_drop hx))) _ (cap - 1) W h3 (by omega)
  rw [← h1] at h4
  exact h4
end Go.Proofs.YthinmioognadpaaDoor.Cmd

/- cmd.set at any words (own text). -/
namespace Go.Proofs.YthinmioognadpaaDoor.Cmd
open Go.RowKit Go.Proofs.YthinmioognadpaaDoorW.PrintWords Go.Proofs.YthinmioognadpaaDoorW.PrintLast Go.Proofs.YthinmioognadpaaDoorW.PrintMore Go.Proofs.YthinmioognadpaaDoor.PCmd Go.Proofs.YthinmioognadpaaDoor.Split
set_option linter.unusedVariables false
set_option linter.unusedSimpArgs false
/-- A line's word. -/
def wd (l : List ByteArray) (i : Nat) : ByteArray := l.getD i ⟨#[]⟩
/-- How many bytes a set's data has; -1: it can't be told. -/
def dataP (l : List ByteArray) : Int := if l.length = 5 ∨ l.length = 6 then (if amtB (wd l 4) then amtV (wd l 4) else -1) else -1
/-- What a line's words that begin with set say. -/
def setP (l : List ByteArray) : Ans :=
  if dataP l < 0 then badA fmtB (-1)
  else if l.length = 6 ∧ wd l 5 ≠ noreplyB then badA fmtB (dataP l)
  else if amtB (wd l 2) = true ∧ momB (wd l 3) = true ∧ keyP (wd l 1) = true then
    (if 1024 < dataP l then badA bigB (dataP l) else (2, [wd l 1], amtV (wd l 2), momV (wd l 3), ⟨#[]⟩, decide (l.length = 6), ⟨#[]⟩, dataP l))
  else badA fmtB (dataP l)
theorem amt_facts {s : ByteArray} (h : amtB s = true) : 0 ≤ amtV s ∧ amtV s < 4294967296 := by
  unfold amtB at h
  obtain ⟨n, hn⟩ := Option.isSome_iff_exists.1 h
  have := amtV_of hn
  omega
theorem nr_iff (s : ByteArray) : (s.toList == [110, 111, 114, 101, 112, 108, 121]) = decide (s = noreplyB) := by
  rw [toList_eq, Bool.eq_iff_iff, beq_iff_eq, decide_eq_true_eq]
  constructor
  · intro h; exact ext_list h
  · rintro rfl; rfl
theorem tells_bad {w w' : World} {base : Nat} {e : Ending} {rep : ByteArray} {d : Int} (h : e = .returned (.tuple #[.agg #[.int .i64 8, .slice none 0 0, .int .u32 0, .int .i64 0, .string ⟨#[]⟩, .bool false, .string rep], .int .i64 d]) ∧ Below w.heap.size w w') : TellsC (badA rep d) base w e w' :=
  ⟨_, h.1, Kd.Q_nil _ _ _ _ _, h.2⟩
theorem wd_cell {w : World} {g : Nat} {l : List ByteArray} (hx : ∀ i x, l[i]? = some x → w.cell? ⟨g, i, none⟩ = some (.string x)) (i : Nat) (h : i < l.length) : w.cell? ⟨g, i, none⟩ = some (.string (wd l i)) := by
  refine hx i _ ?_
  unfold wd
  rw [List.getD_eq_getElem?_getD, List.getElem?_eq_getElem h]; rfl
theorem wd_mem {l : List ByteArray} (i : Nat) (h : i < l.length) : wd l i ∈ l := by
  unfold wd
  rw [List.getD_eq_getElem?_getD, List.getElem?_eq_getElem h]
  exact List.getElem_mem h
theorem set_any (l : List ByteArray) (g cap base : Nat) (w : World) (hR : Kd.R Kd.string 9 w base (fun _ => True) (.slice (some ⟨g, 0, none⟩) l.length cap) l) (hg : g < w.heap.size) (hcap : l.length ≤ cap)
    (hx : ∀ i x, l[i]? = some x → w.cell? ⟨g, i, none⟩ = some (.string x)) (hll : l.length ≤ 1000001) (hs : ∀ x, x ∈ l → x.size ≤ 1000000) :
    Calls Tryd.prog 30 #[.slice (some ⟨g, 0, none⟩) l.length cap] w (TellsC (setP l) base w) := by
  have hc := wd_cell hx
  have hz : ∀ i, i < l.length → (wd l i).size ≤ 1000000 := fun i h => hs _ (wd_mem i h)
  by_cases h56 : l.length = 5 ∨ l.length = 6
  · cases b4 : amtB (wd l 4) with
    | false =>
      have e : setP l = badA fmtB (-1) := by
        unfold setP dataP
        rw [if_pos h56, b4]; rfl
      rw [e]
      rcases h56 with h | h
      · rw [h] at hc hcap ⊢
        exact (set_amt_5 g cap ⟨#[]⟩ ⟨#[]⟩ ⟨#[]⟩ (wd l 4) ⟨#[]⟩ w hg hcap (hc 4 (by omega)) b4).mono fun _ _ k => tells_bad k
      · rw [h] at hc hcap ⊢
        have hn := nr_iff (wd l 5)
        by_cases h5 : wd l 5 = noreplyB
        · rw [decide_eq_true h5] at hn
          exact (set_amt_yes g cap ⟨#[]⟩ ⟨#[]⟩ ⟨#[]⟩ (wd l 4) (wd l 5) w hg hcap (hc 4 (by omega)) b4 (hc 5 (by omega)) hn).mono fun _ _ k => tells_bad k
        · rw [decide_eq_false h5] at hn
          exact (set_amt_no g cap ⟨#[]⟩ ⟨#[]⟩ ⟨#[]⟩ (wd l 4) (wd l 5) w hg hcap (hc 4 (by omega)) b4 (hc 5 (by omega)) hn).mono fun _ _ k => tells_bad k
    | true =>
      have hd := amt_facts b4
      have eD : dataP l = amtV (wd l 4) := by
        unfold dataP
        rw [if_pos h56, if_pos b4]
      have d0 : decide (amtV (wd l 4) < 0) = false := decide_eq_false (by omega)
      by_cases h6 : l.length = 6 ∧ wd l 5 ≠ noreplyB
      · have e : setP l = badA fmtB (amtV (wd l 4)) := by
          unfold setP
          rw [eD, if_neg (by omega), if_pos h6]
        rw [e]
        have hn := nr_iff (wd l 5)
        rw [decide_eq_false h6.2] at hn
        have h := h6.1
        rw [h] at hc hcap ⊢
        exact (set_six g cap ⟨#[]⟩ ⟨#[]⟩ ⟨#[]⟩ (wd l 4) (wd l 5) w hg hcap (hc 4 (by omega)) b4 (hc 5 (by omega)) hn d0).mono fun _ _ k => tells_bad k
      · have e : setP l = if amtB (wd l 2) = true ∧ momB (wd l 3) = true ∧ keyP (wd l 1) = true then (if 1024 < amtV (wd l 4) then badA bigB (amtV (wd l 4)) else (2, [wd l 1], amtV (wd l 2), momV (wd l 3), ⟨#[]⟩, decide (l.length = 6), ⟨#[]⟩, amtV (wd l 4))) else badA fmtB (amtV (wd l 4)) := by
          unfold setP
          rw [eD, if_neg (by omega), if_neg h6]
        rw [e]
        have hzz := hz
        have hkeys : ∀ (q : Bool) (w' : World) (en : Ending), decide (l.length = 6) = q → en = .returned (.tuple #[.agg #[.int .i64 2, .slice (some ⟨g, 1, none⟩) 1 (cap - 1), .int .u32 (amtV (wd l 2)), .int .i64 (momV (wd l 3)), .string ⟨#[]⟩, .bool q, .string ⟨#[]⟩], .int .i64 (amtV (wd l 4))]) ∧ Below w.heap.size w w' →
            TellsC (2, [wd l 1], amtV (wd l 2), momV (wd l 3), ⟨#[]⟩, decide (l.length = 6), ⟨#[]⟩, amtV (wd l 4)) base w en w' := by
          rintro q w' en hq ⟨rfl, hb⟩
          rw [hq]
          refine ⟨_, rfl, ?_, hb⟩
          have hQ := Kd.Q_below (Q_tail (m := 2) hR (by omega) (by omega) (by omega)) hb
          have e1 : (l.take 2).drop 1 = [wd l 1] := by
            have h3 : l.length ≥ 2 := by omega
            match l, h3 with
            | a :: b :: r, _ => rfl
          rw [e1] at hQ
          exact hQ
        rcases h56 with h | h
        · have hq : decide (l.length = 6) = false := decide_eq_false (by omega)
          replace hkeys := fun w' en => hkeys false w' en hq
          rw [h] at hc hcap hz ⊢
          cases b2 : amtB (wd l 2) with
          | false => rw [if_neg (by simp)]; exact (set_a_5 g cap ⟨#[]⟩ (wd l 2) (wd l 3) (wd l 4) ⟨#[]⟩ w hg hcap (hc 4 (by omega)) b4 d0 (hc 2 (by omega)) (hc 3 (by omega)) (hz 3 (by omega)) b2).mono fun _ _ k => tells_bad k
          | true =>
            cases b3 : momB (wd l 3) with
            | false => rw [if_neg (by simp)]; exact (set_b_5 g cap ⟨#[]⟩ (wd l 2) (wd l 3) (wd l 4) ⟨#[]⟩ w hg hcap (hc 4 (by omega)) b4 d0 (hc 2 (by omega)) (hc 3 (by omega)) (hz 3 (by omega)) b2 b3).mono fun _ _ k => tells_bad k
            | true =>
              cases b1 : keyP (wd l 1) with
              | false => rw [if_neg (by simp)]; exact (set_k_5 g cap (wd l 1) (wd l 2) (wd l 3) (wd l 4) ⟨#[]⟩ w hg hcap (hc 4 (by omega)) b4 d0 (hc 2 (by omega)) (hc 3 (by omega)) (hz 3 (by omega)) b2 b3 (hc 1 (by omega)) (hz 1 (by omega)) b1).mono fun _ _ k => tells_bad k
              | true =>
                rw [if_pos ⟨rfl, rfl, rfl⟩]
                by_cases hbig : 1024 < amtV (wd l 4)
                · rw [if_pos hbig]; exact (set_big_5 g cap (wd l 1) (wd l 2) (wd l 3) (wd l 4) ⟨#[]⟩ w hg hcap (hc 4 (by omega)) b4 d0 (hc 2 (by omega)) (hc 3 (by omega)) (hz 3 (by omega)) b2 b3 (hc 1 (by omega)) (hz 1 (by omega)) b1 (decide_eq_true hbig)).mono fun _ _ k => tells_bad k
                · rw [if_neg hbig]
                  rw [h] at hkeys
                  exact (set_ok_5 g cap (wd l 1) (wd l 2) (wd l 3) (wd l 4) ⟨#[]⟩ w hg hcap (hc 4 (by omega)) b4 d0 (hc 2 (by omega)) (hc 3 (by omega)) (hz 3 (by omega)) b2 b3 (hc 1 (by omega)) (hz 1 (by omega)) b1 (decide_eq_false hbig) (amt_facts b2)).mono fun _ _ k => hkeys _ _ k
        · have h5 : wd l 5 = noreplyB := by
            by_cases h5 : wd l 5 = noreplyB
            · exact h5
            · exact absurd ⟨h, h5⟩ h6
          have hn := nr_iff (wd l 5)
          rw [decide_eq_true h5] at hn
          have hq : decide (l.length = 6) = true := decide_eq_true (by omega)
          replace hkeys := fun w' en => hkeys true w' en hq
          rw [h] at hc hcap hz ⊢
          cases b2 : amtB (wd l 2) with
          | false => rw [if_neg (by simp)]; exact (set_a_yes g cap ⟨#[]⟩ (wd l 2) (wd l 3) (wd l 4) (wd l 5) w hg hcap (hc 4 (by omega)) b4 (hc 5 (by omega)) hn d0 (hc 2 (by omega)) (hc 3 (by omega)) (hz 3 (by omega)) b2).mono fun _ _ k => tells_bad k
          | true =>
            cases b3 : momB (wd l 3) with
            | false => rw [if_neg (by simp)]; exact (set_b_yes g cap ⟨#[]⟩ (wd l 2) (wd l 3) (wd l 4) (wd l 5) w hg hcap (hc 4 (by omega)) b4 (hc 5 (by omega)) hn d0 (hc 2 (by omega)) (hc 3 (by omega)) (hz 3 (by omega)) b2 b3).mono fun _ _ k => tells_bad k
            | true =>
              cases b1 : keyP (wd l 1) with
              | false => rw [if_neg (by simp)]; exact (set_k_yes g cap (wd l 1) (wd l 2) (wd l 3) (wd l 4) (wd l 5) w hg hcap (hc 4 (by omega)) b4 (hc 5 (by omega)) hn d0 (hc 2 (by omega)) (hc 3 (by omega)) (hz 3 (by omega)) b2 b3 (hc 1 (by omega)) (hz 1 (by omega)) b1).mono fun _ _ k => tells_bad k
              | true =>
                rw [if_pos ⟨rfl, rfl, rfl⟩]
                by_cases hbig : 1024 < amtV (wd l 4)
                · rw [if_pos hbig]; exact (set_big_yes g cap (wd l 1) (wd l 2) (wd l 3) (wd l 4) (wd l 5) w hg hcap (hc 4 (by omega)) b4 (hc 5 (by omega)) hn d0 (hc 2 (by omega)) (hc 3 (by omega)) (hz 3 (by omega)) b2 b3 (hc 1 (by omega)) (hz 1 (by omega)) b1 (decide_eq_true hbig)).mono fun _ _ k => tells_bad k
                · rw [if_neg hbig]
                  rw [h] at hkeys
                  exact (set_ok_yes g cap (wd l 1) (wd l 2) (wd l 3) (wd l 4) (wd l 5) w hg hcap (hc 4 (by omega)) b4 (hc 5 (by omega)) hn d0 (hc 2 (by omega)) (hc 3 (by omega)) (hz 3 (by omega)) b2 b3 (hc 1 (by omega)) (hz 1 (by omega)) b1 (decide_eq_false hbig) (amt_facts b2)).mono fun _ _ k => hkeys _ _ k
  · have e : setP l = badA fmtB (-1) := by
      unfold setP dataP
      rw [if_neg h56]; rfl
    rw [e]
    exact (set_other g cap l.length ⟨#[]⟩ ⟨#[]⟩ ⟨#[]⟩ ⟨#[]⟩ ⟨#[]⟩ w hg (by omega) (by omega) (by omega)).mono fun _ _ k => tells_bad k
theorem set_n (l : List ByteArray) (n : Nat) (hn : l.length = n) (g cap base : Nat) (w : World) (hR : Kd.R Kd.string 9 w base (fun _ => True) (.slice (some ⟨g, 0, none⟩) n cap) l) (hg : g < w.heap.size) (hcap : n ≤ cap)
    (hx : ∀ i x, l[i]? = some x → w.cell? ⟨g, i, none⟩ = some (.string x)) (hll : n ≤ 1000001) (hs : ∀ x, x ∈ l → x.size ≤ 1000000) :
    Calls Tryd.prog 30 #[.slice (some ⟨g, 0, none⟩) n cap] w (TellsC (setP l) base w) := by
  subst hn
  exact set_any l g cap base w hR hg hcap hx hll hs
theorem keys_n {w : World} {base g cap : Nat} {l : List ByteArray} {m n : Nat} (hn : l.length = n) (hR : Kd.R Kd.string 9 w base (fun _ => True) (.slice (some ⟨g, 0, none⟩) n cap) l) (hm : 1 ≤ m) (hl : m ≤ n) (hll : n ≤ 1000001) (hc : 2 ≤ cap) (hs : ∀ x, x ∈ l → x.size ≤ 1000000)
    (W : World) (hb : Below w.heap.size w W) : Calls Tryd.prog 33 #[.slice (some ⟨g, 1, none⟩) (m - 1) (cap - 1)] W fun e w' => e = .returned (.bool (((l.take m).drop 1).all keyP)) ∧ Drawn0 W w' := by
  subst hn
  exact keys_tail hR hm hl hll hc hs W hb
theorem Q_n {w : World} {base g cap : Nat} {l : List ByteArray} {m n : Nat} (hn : l.length = n) (hR : Kd.R Kd.string 9 w base (fun _ => True) (.slice (some ⟨g, 0, none⟩) n cap) l) (hm : 1 ≤ m) (hl : m ≤ n) (hc : 2 ≤ cap) :
    Kd.Q Kd.string 9 w base (fun _ => True) (.slice (some ⟨g, 1, none⟩) (m - 1) (cap - 1)) ((l.take m).drop 1) := by
  subst hn
  exact Q_tail hR hm hl hc
/-- The blocks from lo on that are w's are the same in W. -/
def Same (w W : World) (lo : Nat) : Prop := w.heap.size ≤ W.heap.size ∧ ∀ k, lo ≤ k → k < w.heap.size → W.heap[k]? = w.heap[k]?
theorem same_refl (w : World) (lo : Nat) : Same w w lo := ⟨Nat.le_refl _, fun _ _ _ => rfl⟩
theorem same_drewN {w W : World} {lo : Nat} (h : Same w W lo) (n : Nat) : Same w (W.drewN n) lo := h
theorem same_drew {w W : World} {lo : Nat} (h : Same w W lo) : Same w W.drew lo := h
theorem same_alloc {w W : World} {lo : Nat} (h : Same w W lo) (o : Obj) : Same w (W.alloc o) lo :=
  ⟨by have := h.1; simp; omega, fun k h1 h2 => (Below.heap_alloc W o k (Nat.lt_of_lt_of_le h2 h.1)).trans (h.2 k h1 h2)⟩
theorem same_set {w W : World} {lo g j : Nat} (h : Same w W lo) (u : Value) (hp : g < lo ∨ w.heap.size ≤ g) : Same w (W.setCell ⟨g, j, none⟩ u) lo :=
  ⟨by simpa [World.setCell] using h.1, fun k h1 h2 => (Below.heap_setCell W ⟨g, j, none⟩ u k (by show k ≠ g; omega)).trans (h.2 k h1 h2)⟩
theorem same_below {w W W2 : World} {lo : Nat} (h : Same w W lo) (hb : Below W.heap.size W W2) : Same w W2 lo :=
  ⟨Nat.le_trans h.1 hb.size, fun k h1 h2 => (hb.block k (Nat.lt_of_lt_of_le h2 h.1)).trans (h.2 k h1 h2)⟩
theorem Q_same {w W : World} {lo base : Nat} {v : Value} {xs : List ByteArray} (hQ : Kd.Q Kd.string 9 w lo (fun _ => True) v xs) (h : Same w W lo) (hb : base ≤ lo) : Kd.Q Kd.string 9 W base (fun _ => True) v xs :=
  Kd.Q_lower (Kd.Q_mono (Kd.Q_move (Kd.Q_bound hQ) (fun k hk => h.2 k hk.2.1 hk.2.2.1)) (fun _ _ => trivial)) hb
end Go.Proofs.YthinmioognadpaaDoor.Cmd

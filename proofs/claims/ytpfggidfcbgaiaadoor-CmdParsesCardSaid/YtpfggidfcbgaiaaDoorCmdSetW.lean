/- cmd.set: the walk (own text). -/
import Derived.Test.YtpfggidfcbgaiaaDoorCmdPure
import Derived.Deep.Cut
import Derived.IntWalk
namespace Go.Proofs.YtpfggidfcbgaiaaDoor.Cmd
open Go.RowKit Go.Proofs.YtpfggidfcbgaiaaDoorW.PrintWords Go.Proofs.YtpfggidfcbgaiaaDoorW.PrintLast Go.Proofs.YtpfggidfcbgaiaaDoorW.PrintMore Go.Proofs.YtpfggidfcbgaiaaDoor.PCmd Go.Proofs.YtpfggidfcbgaiaaDoor.Split
set_option linter.unusedVariables false
set_option linter.unusedSimpArgs false
def noreplyB : ByteArray := ⟨#[110, 111, 114, 101, 112, 108, 121]⟩
def fmtB : ByteArray := ⟨#[67, 76, 73, 69, 78, 84, 95, 69, 82, 82, 79, 82, 32, 98, 97, 100, 32, 99, 111, 109, 109, 97, 110, 100, 32, 108, 105, 110, 101, 32, 102, 111, 114, 109, 97, 116, 13, 10]⟩
def bigB : ByteArray := ⟨#[83, 69, 82, 86, 69, 82, 95, 69, 82, 82, 79, 82, 32, 111, 98, 106, 101, 99, 116, 32, 116, 111, 111, 32, 108, 97, 114, 103, 101, 32, 102, 111, 114, 32, 99, 97, 99, 104, 101, 13, 10]⟩
def errB : ByteArray := ⟨#[69, 82, 82, 79, 82, 13, 10]⟩
abbrev Ans := Int × List ByteArray × Int × Int × ByteArray × Bool × ByteArray × Int
def badA (t : ByteArray) (d : Int) : Ans := (8, [], 0, 0, ⟨#[]⟩, false, t, d)
/-- What a function that answers a command ends in. -/
def TellsC (a : Ans) (base : Nat) (w : World) (e : Ending) (w' : World) : Prop :=
  ∃ v : Value, e = .returned (.tuple #[.agg #[.int .i64 a.1, v, .int .u32 a.2.2.1, .int .i64 a.2.2.2.1, .string a.2.2.2.2.1, .bool a.2.2.2.2.2.1, .string a.2.2.2.2.2.2.1], .int .i64 a.2.2.2.2.2.2.2]) ∧ Kd.Q Kd.string 9 w' base (fun _ => True) v a.2.1 ∧ Below w.heap.size w w'
theorem put7 {w : World} {g : Nat} {t : TypeId} {c0 c1 c2 c3 c4 c5 c6 a0 a1 a2 a3 a4 a5 a6 : Value} (h : w.heap[g]? = some (.cells #[c0, c1, c2, c3, c4, c5, c6] t (0, 0))) :
    (((((((w.setCell ⟨g, 0, none⟩ a0).setCell ⟨g, 1, none⟩ a1).setCell ⟨g, 2, none⟩ a2).setCell ⟨g, 3, none⟩ a3).setCell ⟨g, 4, none⟩ a4).setCell ⟨g, 5, none⟩ a5).setCell ⟨g, 6, none⟩ a6).heap[g]? = some (.cells #[a0, a1, a2, a3, a4, a5, a6] t (0, 0)) := by
  replace h := blk_put (cs' := #[a0, c1, c2, c3, c4, c5, c6]) h 0 a0 rfl
  replace h := blk_put (cs' := #[a0, a1, c2, c3, c4, c5, c6]) h 1 a1 rfl
  replace h := blk_put (cs' := #[a0, a1, a2, c3, c4, c5, c6]) h 2 a2 rfl
  replace h := blk_put (cs' := #[a0, a1, a2, a3, c4, c5, c6]) h 3 a3 rfl
  replace h := blk_put (cs' := #[a0, a1, a2, a3, a4, c5, c6]) h 4 a4 rfl
  replace h := blk_put (cs' := #[a0, a1, a2, a3, a4, a5, c6]) h 5 a5 rfl
  replace h := blk_put (cs' := #[a0, a1, a2, a3, a4, a5, a6]) h 6 a6 rfl
  exact h
theorem far1 {w : World} {g j : Nat} {t : TypeId} {cs : Array Value} {u : Value} (h : w.heap[g]? = some (.cells cs t (0, 0))) : (w.setCell ⟨g + 1, j, none⟩ u).heap[g]? = some (.cells cs t (0, 0)) := blk_far h (p := ⟨g + 1, j, none⟩) (by show g ≠ g + 1; omega) u
set_option maxRecDepth 100000 in
theorem bad_c (s : ByteArray) (hs : s.size ≤ 1000) (w : World) : Calls Tryd.prog 15 #[.string s] w fun e w' => e = .returned (.agg #[.int .i64 8, .slice none 0 0, .int .u32 0, .int .i64 0, .string ⟨#[]⟩, .bool false, .string (s ++ ⟨#[13, 10]⟩)]) ∧ Below w.heap.size w w' := by
  go_enter Tryd.func15, Tryd.ntmps15
  go_wp2_with (fail)
  refine bodyPost_ret (results_cell_row rfl _ _ w.heap.size 26 #[.int .i64 8, .slice none 0 0, .int .u32 0, .int .i64 0, .string ⟨#[]⟩, .bool false, .string (s ++ ⟨#[13, 10]⟩)] (0, 0) _ rfl ?h2 Tryd.underlying26 rfl (by kernel_rfl)) rfl ?h4
  case h2 =>
    (with_reducible exact blk_new _ _)
  case h4 =>
    refine ⟨rfl, ?_⟩
    repeat (first | (with_reducible first | exact Below.refl _ _ | apply below_alloc | apply pw_below_drewN) | refine below_set ?_ (by omega))
theorem bad_fmt (w : World) : Calls Tryd.prog 15 #[.string ⟨#[67, 76, 73, 69, 78, 84, 95, 69, 82, 82, 79, 82, 32, 98, 97, 100, 32, 99, 111, 109, 109, 97, 110, 100, 32, 108, 105, 110, 101, 32, 102, 111, 114, 109, 97, 116]⟩] w fun e w' => e = .returned (.agg #[.int .i64 8, .slice none 0 0, .int .u32 0, .int .i64 0, .string ⟨#[]⟩, .bool false, .string fmtB]) ∧ Below w.heap.size w w' :=
  bad_c _ (by decide) w
theorem bad_big (w : World) : Calls Tryd.prog 15 #[.string ⟨#[83, 69, 82, 86, 69, 82, 95, 69, 82, 82, 79, 82, 32, 111, 98, 106, 101, 99, 116, 32, 116, 111, 111, 32, 108, 97, 114, 103, 101, 32, 102, 111, 114, 32, 99, 97, 99, 104, 101]⟩] w fun e w' => e = .returned (.agg #[.int .i64 8, .slice none 0 0, .int .u32 0, .int .i64 0, .string ⟨#[]⟩, .bool false, .string bigB]) ∧ Below w.heap.size w w' :=
  bad_c _ (by decide) w
theorem bad_err (w : World) : Calls Tryd.prog 15 #[.string ⟨#[69, 82, 82, 79, 82]⟩] w fun e w' => e = .returned (.agg #[.int .i64 8, .slice none 0 0, .int .u32 0, .int .i64 0, .string ⟨#[]⟩, .bool false, .string errB]) ∧ Below w.heap.size w w' :=
  bad_c _ (by decide) w
theorem amount_c (s : ByteArray) (w : World) : Calls Tryd.prog 25 #[.string s] w fun e w' => e = .returned (.tuple #[.int .i64 (amtV s), .bool (amtB s)]) ∧ Drawn0 w w' := cmd_amount.calls 12 s _ _ w (amount_is s 12 (by omega))
theorem moment_c (s : ByteArray) (hs : s.size ≤ 1000000) (w : World) : Calls Tryd.prog 18 #[.string s] w fun e w' => e = .returned (.tuple #[.int .i64 (momV s), .bool (momB s)]) ∧ Drawn0 w w' := cmd_moment.calls 12 s _ _ w (moment_is s 12 (by omega) hs)
theorem bcell {W w1 : World} (hb : Below W.heap.size W w1) : (∀ b o, b < W.heap.size → w1.cell? ⟨b, o, none⟩ = W.cell? ⟨b, o, none⟩) ∧ (∀ b o, b < W.heap.size → w1.frozen? ⟨b, o, none⟩ = W.frozen? ⟨b, o, none⟩) :=
  ⟨fun b o h => hb.cell (p := ⟨b, o, none⟩) h, fun b o h => hb.frozen (p := ⟨b, o, none⟩) h⟩
theorem quiet_ne (g n cap m : Nat) (w : World) (h : n ≠ m + 1) (hm : m ≤ 10) : Calls Tryd.prog 17 #[.slice (some ⟨g, 0, none⟩) n cap, .int .i64 m] w fun e w' => e = .returned (.tuple #[.slice (some ⟨g, 0, none⟩) n cap, .bool false]) ∧ w = w' := by
  have h1 : IntKind.i64.wrap ((m : Int) + 1) = (m : Int) + 1 := IntWalk.i64_in _ ⟨by omega, by omega⟩
  have h2 : ((n : Int) == (m : Int) + 1) = false := beq_eq_false_iff_ne.2 (by omega)
  clear h
  go_enter Tryd.func17, Tryd.ntmps17
  go_wp2
  go_ret2
  exact ⟨rfl, rfl⟩
theorem quiet_no (g cap m : Nat) (s : ByteArray) (w : World) (hc : w.cell? ⟨g, m, none⟩ = some (.string s)) (hs : (s.toList == [110, 111, 114, 101, 112, 108, 121]) = false) (hm : m ≤ 10) : Calls Tryd.prog 17 #[.slice (some ⟨g, 0, none⟩) (m + 1) cap, .int .i64 m] w fun e w' => e = .returned (.tuple #[.slice (some ⟨g, 0, none⟩) (m + 1) cap, .bool false]) ∧ w = w' := by
  have h1 : IntKind.i64.wrap ((m : Int) + 1) = (m : Int) + 1 := IntWalk.i64_in _ ⟨by omega, by omega⟩
  go_enter Tryd.func17, Tryd.ntmps17
  go_wp2
  go_ret2
  exact ⟨rfl, rfl⟩
theorem quiet_yes (g cap m : Nat) (s : ByteArray) (w : World) (hc : w.cell? ⟨g, m, none⟩ = some (.string s)) (hs : (s.toList == [110, 111, 114, 101, 112, 108, 121]) = true) (hm : m ≤ 10) (hcap : m ≤ cap) : Calls Tryd.prog 17 #[.slice (some ⟨g, 0, none⟩) (m + 1) cap, .int .i64 m] w fun e w' => e = .returned (.tuple #[.slice (some ⟨g, 0, none⟩) m cap, .bool true]) ∧ w = w' := by
  have h1 : IntKind.i64.wrap ((m : Int) + 1) = (m : Int) + 1 := IntWalk.i64_in _ ⟨by omega, by omega⟩
  go_enter Tryd.func17, Tryd.ntmps17
  go_wp2
  go_ret2
  exact ⟨rfl, rfl⟩
theorem key_c (s : ByteArray) (hs : s.size ≤ 1000000) (w : World) : Calls Tryd.prog 26 #[.string s] w fun e w' => e = .returned (.bool (keyP s)) ∧ Drawn0 w w' := rec_KeyMay.calls (s.size + 1) s _ w (keyMay_is s _ hs (by omega))
end Go.Proofs.YtpfggidfcbgaiaaDoor.Cmd

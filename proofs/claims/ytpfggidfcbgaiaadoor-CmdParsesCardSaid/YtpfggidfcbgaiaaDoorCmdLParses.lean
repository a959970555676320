/- CmdParses: any line says what the reference says (own text). -/
import Derived.Test.YtpfggidfcbgaiaaDoorCmdFix
import Derived.Test.YtpfggidfcbgaiaaDoorCmdSame
import Derived.Test.YtpfggidfcbgaiaaDoorCmdParA
import Derived.Test.YtpfggidfcbgaiaaDoorRefParA
namespace Go.Proofs.YtpfggidfcbgaiaaDoor.CmdLParses
open Go.RowKit Go.Proofs.YtpfggidfcbgaiaaDoorW.PrintWords Go.Proofs.YtpfggidfcbgaiaaDoorW.PrintLast Go.Proofs.YtpfggidfcbgaiaaDoorW.PrintMore Go.Proofs.YtpfggidfcbgaiaaDoor.PCmd Go.Proofs.YtpfggidfcbgaiaaDoor.Split Go.Proofs.YtpfggidfcbgaiaaDoor.Cmd
set_option linter.unusedVariables false
set_option linter.unusedSimpArgs false
theorem parseP_len (l : List ByteArray) : (parseP l).2.1.length ≤ l.length + 1 := by
  unfold parseP setP
  repeat' split
  all_goals first | (simp [badA]; done) | (simp [badA]; omega)
theorem told {k : Int} {ks : List ByteArray} {fl ex : Int} {bo : ByteArray} {q : Bool} {re : ByteArray} {d : Int} {w w' : World} {e : Ending} (h : TellsC (k, ks, fl, ex, bo, q, re, d) w.heap.size w e w') :
    ∃ A c, e = .returned (.tuple #[.agg #[.int .i64 k, .slice A ks.length c, .int .u32 fl, .int .i64 ex, .string bo, .bool q, .string re], .int .i64 d]) ∧ ks.length ≤ c ∧ Hid (Kd.C Kd.string w' A ks.length ks) ∧ Below w.heap.size w w' := by
  obtain ⟨v, rfl, hQ, hb⟩ := h
  obtain ⟨A, c, rfl, hc, hC⟩ := Kd.Q_reads hQ
  exact ⟨A, c, rfl, hc, Lib.hid hC, hb⟩
theorem same_c (k : Int) (ks : List ByteArray) (fl ex : Int) (bo : ByteArray) (q : Bool) (re : ByteArray) (hk : ks.length ≤ 9223372036854775807) (A B : Option Addr) (c d : Nat) (W : World) (hA : Kd.C Kd.string W A ks.length ks) (hc : ks.length ≤ c) (hB : Kd.C Kd.string W B ks.length ks) (hd : ks.length ≤ d) :
    Calls Tryd.prog 11 #[.agg #[.int .i64 k, .slice A ks.length c, .int .u32 fl, .int .i64 ex, .string bo, .bool q, .string re], .agg #[.int .i64 k, .slice B ks.length d, .int .u32 fl, .int .i64 ex, .string bo, .bool q, .string re]] W fun e w' => e = .returned (.bool true) ∧ Below W.heap.size W w' := by
  have h := tattlerref07_Same.calls _ k A c ks fl ex bo q re k B d ks fl ex bo q re _ W hA hc hB hd (same_is k ks fl ex bo q re k ks fl ex bo q re hk)
  have e : sameP k ks fl ex bo q re k ks fl ex bo q re = true := decide_eq_true ⟨rfl, rfl, rfl, rfl, rfl, rfl, rfl⟩
  rw [e] at h
  exact h
set_option maxRecDepth 100000 in
set_option maxHeartbeats 1600000 in
theorem long (s : ByteArray) (h : 5000 < s.size) (w : World) : Calls Tryd.prog 3 #[.string s] w fun e w' => e = .returned (.bool true) ∧ Below w.heap.size w w' := by
  have CX := Lib.hid fixed_any
  have t0 : decide ((5000 : Int) < (s.size : Int)) = true := decide_eq_true (by omega)
  have t1 : decide (5000 < s.size) = true := decide_eq_true h
  go_enter Tryd.func3, Tryd.ntmps3
  go_wp2_with (first
    | (go_at_call 8; (with_reducible refine (CX.out _).mono ?_); rintro e w5 ⟨rfl, hb5⟩))
  go_ret
  exact ⟨rfl, by repeat (first | (with_reducible first | exact hb5 | exact Below.refl _ _ | apply below_alloc | apply pw_below_drewN | apply below_drew1) | refine below_step ?_ hb5)⟩
set_option maxRecDepth 100000 in
set_option maxHeartbeats 1600000 in
theorem short (s : ByteArray) (h : ¬ 5000 < s.size) (w : World) : Calls Tryd.prog 3 #[.string s] w fun e w' => e = .returned (.bool true) ∧ Below w.heap.size w w' := by
  have CX := Lib.hid fixed_any
  have t0 : decide ((5000 : Int) < (s.size : Int)) = false := decide_eq_false (by omega)
  have t1 : decide (5000 < s.size) = false := decide_eq_false h
  have HP := fun w => parse_any s (by omega) w
  have HR := fun w => refParse_any s (by omega) w
  have hk := parseP_len (wordsB s)
  have hlen : (wordsB s).length ≤ 1000001 := by
    unfold wordsB
    have h1 := List.length_filter_le (fun x : ByteArray => !x.data.toList.isEmpty) (splitB s)
    have h2 := splitB_le s
    omega
  obtain ⟨⟨k, ks, fl, ex, bo, q, re, d⟩, ha⟩ : ∃ a, parseP (wordsB s) = a := ⟨_, rfl⟩
  rw [ha] at HP HR hk
  have hk2 : ks.length ≤ 9223372036854775807 := Nat.le_trans hk (by omega)
  have CP := Lib.hid (fun w => (HP w).mono (fun e w' k => told k))
  have CR := Lib.hid (fun w => (HR w).mono (fun e w' k => told k))
  have HK := Lib.hid hk2
  clear HP HR hk hk2 hlen ha h
  go_enter Tryd.func3, Tryd.ntmps3
  go_wp2_with (first
    | (go_at_call 9; (with_reducible refine (CP.out _).mono ?_); rintro e w1 ⟨A, c, rfl, hc, hC, hb1⟩)
    | (go_at_call 10; (with_reducible refine (CR.out _).mono ?_); rintro e w2 ⟨B, b, rfl, hc2, hC2, hb2⟩; have z2 := hb2.size; (simp at z2); have y2 : w1.heap.size < w2.heap.size := (by omega); have y2' : w1.heap.size < w2.heap.size + 1 := (by omega); have k2 := bcell2 hb2)
    | (go_at_call 8; (with_reducible refine (CX.out _).mono ?_); rintro e w3 ⟨rfl, hb3⟩; have z3 := hb3.size; (simp at z3); have y3 : w2.heap.size < w3.heap.size := (by omega); have k3 := bcell2 hb3)
    | (go_at_call 11; refine (same_c k ks fl ex bo q re HK.out A B c b _ (Kd.C_below hC.out (by repeat (first | (with_reducible first | exact Below.refl _ _ | apply below_alloc | apply pw_below_drewN | apply below_drew1) | (with_reducible refine below_step ?_ hb3) | refine below_step ?_ hb2))) hc (Kd.C_below hC2.out (by repeat (first | (with_reducible first | exact Below.refl _ _ | apply below_alloc | apply pw_below_drewN | apply below_drew1) | refine below_step ?_ hb3))) hc2).mono ?_; rintro e w6 ⟨rfl, hb6⟩))
  go_ret
  refine ⟨rfl, ?_⟩
  repeat (first | (with_reducible first | exact Below.refl _ _ | apply below_alloc | apply pw_below_drewN | apply below_drew1) | refine below_step ?_ hb6 | refine below_step ?_ hb3 | refine below_step ?_ hb2 | refine below_step ?_ hb1)
theorem walk (s : ByteArray) (w : World) : Calls Tryd.prog 3 #[.string s] w fun e w' => e = .returned (.bool true) ∧ Below w.heap.size w w' := by
  by_cases h : 5000 < s.size
  · exact long s h w
  · exact short s h w
end Go.Proofs.YtpfggidfcbgaiaaDoor.CmdLParses

/- FrameDecodes answers true: the walk (own text; printed by wip/tools/gen_framelaws.py, a program of this session). -/
import Derived.Test.YtkddaedjgbakkaaFrameFix
namespace Go.Proofs.Ytkddaedjgbakkaa.Frame
open Go.Proofs.Ytkddaedjgbakkaa Go.RowKit Go.Proofs.Ytkddaedjgbakkaa.Mem Go.Proofs.Ytkddaedjgbakkaa.Sum
set_option linter.unusedVariables false
set_option linter.unusedSimpArgs false
theorem decs_great (s : ByteArray) (w : World) (h : 5000 < s.size) : Calls Try.prog 4 #[.string s] w fun e w' => e = .returned (.bool true) ∧ Below w.heap.size w w' := by
  have c1 : decide ((5000 : Int) < (s.size : Int)) = true := decide_eq_true (by omega)
  go_enter Try.func4, Try.ntmps4
  go_wp2_with (fail)
  refine (fixed_any _).mono ?_
  rintro e w1 ⟨rfl, b1⟩
  go_wp2_with (fail)
  go_ret
  exact ⟨rfl, b1⟩
set_option maxHeartbeats 800000 in
theorem decs_ok (s : ByteArray) (w : World) (h : s.size ≤ 5000) : Calls Try.prog 4 #[.string s] w fun e w' => e = .returned (.bool true) ∧ Below w.heap.size w w' := by
  have c1 : decide ((5000 : Int) < (s.size : Int)) = false := decide_eq_false (by omega)
  obtain ⟨k, f, t, b, er, hd⟩ : ∃ k f t b er, decR s = (k, f, t, b, er) := ⟨_, _, _, _, _, rfl⟩
  have h1 : ∀ (c tb : Nat) (W : World) (h : Cod W c tb), Calls Try.prog 10 #[.pointer (some ⟨c, 0, none⟩), .string s] W fun e w' => e = .returned (.tuple #[.agg #[.int .u8 (k : Int), .int .u8 (f : Int), .int .u8 (t : Int), .string b], .int .i64 er]) ∧ IsTab w' tb ∧ Chg (fun x => x = tb) W w' := fun c tb W h => by
    have := pdec c tb s W h (by omega)
    rw [hd] at this
    exact this
  have h2 : ∀ (W : World), Calls Try.prog 11 #[.string s] W fun e w' => e = .returned (.tuple #[.agg #[.int .u8 (k : Int), .int .u8 (f : Int), .int .u8 (t : Int), .string b], .int .i64 er]) ∧ Below W.heap.size W w' := fun W => by
    have := refDec_any s W (by omega)
    rw [hd] at this
    exact this
  have H1 := Lib.hid h1
  have H2 := Lib.hid h2
  clear h1 h2 hd
  go_enter Try.func4, Try.ntmps4
  go_wp2_with (fail)
  refine (fnew _).mono ?_
  rintro e w1 ⟨c, tb, rfl, hc, g1, g2, g3, g4, b1⟩
  have HC := Lib.hid hc
  have HB := Lib.hid b1
  clear hc b1
  go_wp2_with (fail)
  refine (H1.out _ _ _ HC.out).mono ?_
  rintro e w2 ⟨rfl, t2, k2⟩
  replace HB := Lib.hid (below_chg HB.out k2 (fun i h => by omega))
  clear t2 k2 HC
  go_wp2_with (fail)
  have HF := Lib.hid (at_new w2 #[.int .u8 (k : Int), .int .u8 (f : Int), .int .u8 (t : Int), .string b] 23)
  replace HB := Lib.hid (below_al (o := .cells #[.int .u8 (k : Int), .int .u8 (f : Int), .int .u8 (t : Int), .string b] 23) HB.out)
  refine (H2.out _).mono ?_
  rintro e w3 ⟨rfl, b3⟩
  replace HF := Lib.hid (at_below HF.out b3)
  replace HB := Lib.hid (below_on HB.out b3)
  clear b3
  have q1 : w2.heap.size < w3.heap.size := At.lt HF.out
  go_wp2_with (fail)
  have HG := Lib.hid (at_new w3 #[.int .u8 (k : Int), .int .u8 (f : Int), .int .u8 (t : Int), .string b] 23)
  replace HF := Lib.hid (at_alloc (o := .cells #[.int .u8 (k : Int), .int .u8 (f : Int), .int .u8 (t : Int), .string b] 23) HF.out)
  replace HB := Lib.hid (below_al (o := .cells #[.int .u8 (k : Int), .int .u8 (f : Int), .int .u8 (t : Int), .string b] 23) HB.out)
  refine (fixed_any _).mono ?_
  rintro e w4 ⟨rfl, b4⟩
  replace HF := Lib.hid (at_below HF.out b4)
  replace HG := Lib.hid (at_below HG.out b4)
  replace HB := Lib.hid (below_on HB.out b4)
  clear b4
  obtain ⟨x0, x1, x2, x3, -⟩ := at4 HF.out
  obtain ⟨y0, y1, y2, y3, -⟩ := at4 HG.out
  go_wp2_with (fail)
  go_ret
  exact ⟨rfl, HB.out⟩
theorem FrameDecodes_walk (s : ByteArray) (w : World) : Calls Try.prog 4 #[.string s] w fun e w' => e = .returned (.bool true) ∧ Below w.heap.size w w' := by
  by_cases h : s.size ≤ 5000
  · exact decs_ok s w h
  · exact decs_great s w (by omega)
end Go.Proofs.Ytkddaedjgbakkaa.Frame

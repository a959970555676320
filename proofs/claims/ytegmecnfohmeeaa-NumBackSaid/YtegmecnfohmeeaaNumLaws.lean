/- Each statement's Go function answers true: the walks (own text). -/
import Derived.Test.YtegmecnfohmeeaaNumFixed
import Derived.Test.YtegmecnfohmeeaaNumPlain
namespace Go.Proofs.Ytegmecnfohmeeaa.Num
open Go.RowKit Go.Proofs.YtegmecnfohmeeaaW.PrintWords Go.Proofs.YtegmecnfohmeeaaW.PrintLast Go.Proofs.YtegmecnfohmeeaaW.PrintMore
set_option linter.unusedVariables false
set_option linter.unusedSimpArgs false

set_option maxHeartbeats 400000 in
theorem NumGets_walk (s : ByteArray) (a : Int) (w : World) (hs : s.size ≤ 140737488351232) :
    Calls Try.prog 4 #[.string s, .int .i64 a] w fun e w' => e = .returned (.bool true) ∧ Below w.heap.size w w' := by
  by_cases h : s.size ≤ 5000
  · have c1 : decide (5000 < (s.size : Int)) = false := by simp; omega
    have h1 := fun w1 => get_any s a w1 (by unfold maxLen; omega)
    have h2 := fun w1 => refGet_any s a w1 (by unfold maxLen; omega)
    obtain ⟨n, p, er, he⟩ : ∃ n p er, getS s a = (n, p, er) := ⟨_, _, _, rfl⟩
    rw [he] at h1 h2
    simp only [getV] at h1 h2
    have H1 := Lib.hid h1
    have H2 := Lib.hid h2
    clear h1 h2 he h
    go_enter Try.func4, Try.ntmps4
    go_wp2_with (first | (go_at_call 8; (with_reducible refine (fixed_any _).mono ?_); rintro e wf ⟨rfl, hbf⟩) | (go_at_call 11; (with_reducible refine (H1.out _).mono ?_); rintro e w1 ⟨rfl, ndw1, rfl⟩) | (go_at_call 12; (with_reducible refine (H2.out _).mono ?_); rintro e w2 ⟨rfl, hbw2⟩))
    go_ret
    exact ⟨rfl, by repeat (first | exact Below.refl _ _ | assumption | apply pw_below_drewN | refine below_step ?_ (by assumption))⟩
  · have c1 : decide (5000 < (s.size : Int)) = true := by simp; omega
    go_enter Try.func4, Try.ntmps4
    go_wp2_with (go_at_call 8; (with_reducible refine (fixed_any _).mono ?_); rintro e wf ⟨rfl, hbf⟩)
    go_ret
    exact ⟨rfl, by repeat (first | exact Below.refl _ _ | assumption | apply pw_below_drewN | refine below_step ?_ (by assumption))⟩

set_option maxHeartbeats 400000 in
theorem NumTexts_walk (s : ByteArray) (a most : Int) (w : World) (hs : s.size ≤ 140737488351232) (hm : most ≤ 9223372036854775807) :
    Calls Try.prog 6 #[.string s, .int .i64 a, .int .i64 most] w fun e w' => e = .returned (.bool true) ∧ Below w.heap.size w w' := by
  by_cases h : s.size ≤ 5000
  · have c1 : decide (5000 < (s.size : Int)) = false := by simp; omega
    have h1 := fun w1 => getText_any s a most w1 (by unfold maxLen; omega) hm
    have h2 := fun w1 => refGetText_any s a most w1 (by unfold maxLen; omega) hm
    have h3 := fun w1 => putText_any s w1 (by omega)
    have h4 := fun w1 => refText_any s w1 (by omega)
    obtain ⟨n, p, er, he⟩ : ∃ n p er, textS s a most = (n, p, er) := ⟨_, _, _, rfl⟩
    rw [he] at h1 h2
    simp only [textV] at h1 h2
    have H1 := Lib.hid h1
    have H2 := Lib.hid h2
    have H3 := Lib.hid h3
    have H4 := Lib.hid h4
    clear h1 h2 h3 h4 he h hm
    go_enter Try.func6, Try.ntmps6
    go_wp2_with (first | (go_at_call 8; (with_reducible refine (fixed_any _).mono ?_); rintro e wf ⟨rfl, hbf⟩) | (go_at_call 13; (with_reducible refine (H1.out _).mono ?_); rintro e w1 ⟨rfl, hbw1⟩) | (go_at_call 14; (with_reducible refine (H2.out _).mono ?_); rintro e w2 ⟨rfl, hbw2⟩) | (go_at_call 15; (with_reducible refine (H3.out _).mono ?_); rintro e w3 ⟨rfl, hbw3⟩) | (go_at_call 16; (with_reducible refine (H4.out _).mono ?_); rintro e w4 ⟨rfl, hbw4⟩))
    go_ret
    exact ⟨rfl, by repeat (first | exact Below.refl _ _ | assumption | apply pw_below_drewN | refine below_step ?_ (by assumption))⟩
  · have c1 : decide (5000 < (s.size : Int)) = true := by simp; omega
    go_enter Try.func6, Try.ntmps6
    go_wp2_with (go_at_call 8; (with_reducible refine (fixed_any _).mono ?_); rintro e wf ⟨rfl, hbf⟩)
    go_ret
    exact ⟨rfl, by repeat (first | exact Below.refl _ _ | assumption | apply pw_below_drewN | refine below_step ?_ (by assumption))⟩

set_option maxHeartbeats 400000 in
theorem NumPuts_walk (n : Int) (p q : ByteArray) (w : World) (h0 : 0 ≤ n) (hp : p.size ≤ 140737488351232) (hq : q.size ≤ 140737488351232) :
    Calls Try.prog 3 #[.int .u64 n, .string p, .string q] w fun e w' => e = .returned (.bool true) ∧ Below w.heap.size w w' := by
  by_cases h : p.size ≤ 1000 ∧ q.size ≤ 1000
  · have c1 : decide (1000 < (p.size : Int)) = false := by simp; omega
    have c2 : decide (1000 < (q.size : Int)) = false := by simp; omega
    have H1 := Lib.hid (fun w1 => put_any n w1 h0)
    have H2 := Lib.hid (fun w1 => refPut_any n w1 h0)
    by_cases hn : n < 4611686018427387904
    · have hz : (putB n).size ≤ 8 := by rw [putB_size hn, bytesL_length]; (repeat' split) <;> decide
      have h3 := fun w1 => get_any (p ++ putB n ++ q) p.size w1 (by rw [size_append3]; unfold maxLen; omega)
      rw [get_put n p q h0 hn] at h3
      simp only [getV] at h3
      rw [putE_small hn] at H1 H2
      have H3 := Lib.hid h3
      clear h3 h hn
      go_enter Try.func3, Try.ntmps3
      go_wp2_with (first | (go_at_call 8; (with_reducible refine (fixed_any _).mono ?_); rintro e wf ⟨rfl, hbf⟩) | (go_at_call 9; (with_reducible refine (H1.out _).mono ?_); rintro e w1 ⟨rfl, hbw1⟩) | (go_at_call 10; (with_reducible refine (H2.out _).mono ?_); rintro e w2 ⟨rfl, hbw2⟩) | (go_at_call 11; (with_reducible refine (H3.out _).mono ?_); rintro e w3 ⟨rfl, ndw3, rfl⟩))
      go_ret
      exact ⟨rfl, by repeat (first | exact Below.refl _ _ | assumption | apply pw_below_drewN | refine below_step ?_ (by assumption))⟩
    · have e2 : putE n = 4 := if_pos (by omega)
      rw [e2] at H1 H2
      clear h hn e2
      go_enter Try.func3, Try.ntmps3
      go_wp2_with (first | (go_at_call 8; (with_reducible refine (fixed_any _).mono ?_); rintro e wf ⟨rfl, hbf⟩) | (go_at_call 9; (with_reducible refine (H1.out _).mono ?_); rintro e w1 ⟨rfl, hbw1⟩) | (go_at_call 10; (with_reducible refine (H2.out _).mono ?_); rintro e w2 ⟨rfl, hbw2⟩))
      go_ret
      exact ⟨rfl, by repeat (first | exact Below.refl _ _ | assumption | apply pw_below_drewN | refine below_step ?_ (by assumption))⟩
  · by_cases h1 : p.size ≤ 1000
    · have c1 : decide (1000 < (p.size : Int)) = false := by simp; omega
      have c2 : decide (1000 < (q.size : Int)) = true := by simp; omega
      go_enter Try.func3, Try.ntmps3
      go_wp2_with (go_at_call 8; (with_reducible refine (fixed_any _).mono ?_); rintro e wf ⟨rfl, hbf⟩)
      go_ret
      exact ⟨rfl, by repeat (first | exact Below.refl _ _ | assumption | apply pw_below_drewN | refine below_step ?_ (by assumption))⟩
    · have c1 : decide (1000 < (p.size : Int)) = true := by simp; omega
      go_enter Try.func3, Try.ntmps3
      go_wp2_with (go_at_call 8; (with_reducible refine (fixed_any _).mono ?_); rintro e wf ⟨rfl, hbf⟩)
      go_ret
      exact ⟨rfl, by repeat (first | exact Below.refl _ _ | assumption | apply pw_below_drewN | refine below_step ?_ (by assumption))⟩

set_option maxHeartbeats 400000 in
theorem NumBack_walk (t p q : ByteArray) (most : Int) (w : World) (ht : t.size ≤ 140737488351232) (hp : p.size ≤ 140737488351232) (hq : q.size ≤ 140737488351232) (hm : most ≤ 9223372036854775807) :
    Calls Try.prog 7 #[.string t, .string p, .string q, .int .i64 most] w fun e w' => e = .returned (.bool true) ∧ Below w.heap.size w w' := by
  by_cases h : t.size ≤ 5000 ∧ p.size ≤ 1000 ∧ q.size ≤ 1000
  · have c0 : decide (5000 < (t.size : Int)) = false := by simp; omega
    have c1 : decide (1000 < (p.size : Int)) = false := by simp; omega
    have c2 : decide (1000 < (q.size : Int)) = false := by simp; omega
    have H1 := Lib.hid (fun w1 => putText_any t w1 (by omega))
    have hz0 : (textB t).size = (putB t.size).size + t.size := by unfold textB; simp only [ByteArray.size_append]
    have hz : (putB t.size).size ≤ 8 := by rw [putB_size (by omega), bytesL_length]; (repeat' split) <;> decide
    have hz1 : (textB t).size ≤ 5008 := by omega
    have h3 := fun w1 => getText_any (p ++ textB t ++ q) p.size most w1 (by rw [size_append3]; unfold maxLen; omega) hm
    rw [get_text t p q most (by omega)] at h3
    by_cases hl : (t.size : Int) > most
    · rw [if_pos hl] at h3
      simp only [textV] at h3
      have H3 := Lib.hid h3
      have c3 : decide (most < (t.size : Int)) = true := by simpa using hl
      clear h3 h hz0 hz hl hm
      go_enter Try.func7, Try.ntmps7
      go_wp2_with (first | (go_at_call 8; (with_reducible refine (fixed_any _).mono ?_); rintro e wf ⟨rfl, hbf⟩) | (go_at_call 15; (with_reducible refine (H1.out _).mono ?_); rintro e w1 ⟨rfl, hbw1⟩) | (go_at_call 13; (with_reducible refine (H3.out _).mono ?_); rintro e w3 ⟨rfl, hbw3⟩))
      go_ret
      exact ⟨rfl, by repeat (first | exact Below.refl _ _ | assumption | apply pw_below_drewN | refine below_step ?_ (by assumption))⟩
    · rw [if_neg hl] at h3
      simp only [textV] at h3
      have H3 := Lib.hid h3
      have c3 : decide (most < (t.size : Int)) = false := by simpa using hl
      clear h3 h hz0 hz hl hm
      go_enter Try.func7, Try.ntmps7
      go_wp2_with (first | (go_at_call 8; (with_reducible refine (fixed_any _).mono ?_); rintro e wf ⟨rfl, hbf⟩) | (go_at_call 15; (with_reducible refine (H1.out _).mono ?_); rintro e w1 ⟨rfl, hbw1⟩) | (go_at_call 13; (with_reducible refine (H3.out _).mono ?_); rintro e w3 ⟨rfl, hbw3⟩))
      go_ret
      exact ⟨rfl, by repeat (first | exact Below.refl _ _ | assumption | apply pw_below_drewN | refine below_step ?_ (by assumption))⟩
  · by_cases h0 : t.size ≤ 5000
    · by_cases h1 : p.size ≤ 1000
      · have c0 : decide (5000 < (t.size : Int)) = false := by simp; omega
        have c1 : decide (1000 < (p.size : Int)) = false := by simp; omega
        have c2 : decide (1000 < (q.size : Int)) = true := by simp; omega
        go_enter Try.func7, Try.ntmps7
        go_wp2_with (go_at_call 8; (with_reducible refine (fixed_any _).mono ?_); rintro e wf ⟨rfl, hbf⟩)
        go_ret
        exact ⟨rfl, by repeat (first | exact Below.refl _ _ | assumption | apply pw_below_drewN | refine below_step ?_ (by assumption))⟩
      · have c0 : decide (5000 < (t.size : Int)) = false := by simp; omega
        have c1 : decide (1000 < (p.size : Int)) = true := by simp; omega
        go_enter Try.func7, Try.ntmps7
        go_wp2_with (go_at_call 8; (with_reducible refine (fixed_any _).mono ?_); rintro e wf ⟨rfl, hbf⟩)
        go_ret
        exact ⟨rfl, by repeat (first | exact Below.refl _ _ | assumption | apply pw_below_drewN | refine below_step ?_ (by assumption))⟩
    · have c0 : decide (5000 < (t.size : Int)) = true := by simp; omega
      go_enter Try.func7, Try.ntmps7
      go_wp2_with (go_at_call 8; (with_reducible refine (fixed_any _).mono ?_); rintro e wf ⟨rfl, hbf⟩)
      go_ret
      exact ⟨rfl, by repeat (first | exact Below.refl _ _ | assumption | apply pw_below_drewN | refine below_step ?_ (by assumption))⟩

theorem putB_sizes {n : Int} (h : n < 4611686018427387904) : (putB n).size = 1 ∨ (putB n).size = 2 ∨ (putB n).size = 4 ∨ (putB n).size = 8 := by
  rw [putB_size h, bytesL_length]; (repeat' split) <;> simp
theorem putB_mono {n m : Int} (h0 : 0 ≤ n) (h : n ≤ m) (h1 : m < 4611686018427387904) : (putB n).size ≤ (putB m).size := by
  rw [putB_size h1, putB_size (by omega), bytesL_length, bytesL_length]; (repeat' split) <;> omega
theorem less_total : ∀ a b : List UInt8, Op.bytesLess a b = true ∨ a = b ∨ Op.bytesLess b a = true
  | [], [] => .inr (.inl rfl)
  | [], _ :: _ => .inl rfl
  | _ :: _, [] => .inr (.inr rfl)
  | a :: x, b :: y => by
    rw [less_cons, less_cons]
    simp only [Bool.or_eq_true, Bool.and_eq_true, decide_eq_true_eq, beq_iff_eq, List.cons.injEq]
    rcases less_total x y with h | h | h
    · by_cases e : a = b
      · exact .inl (.inr ⟨e, h⟩)
      · rcases UInt8.lt_or_lt_of_ne e with g | g
        · exact .inl (.inl g)
        · exact .inr (.inr (.inl g))
    · by_cases e : a = b
      · exact .inr (.inl ⟨e, h⟩)
      · rcases UInt8.lt_or_lt_of_ne e with g | g
        · exact .inl (.inl g)
        · exact .inr (.inr (.inl g))
    · by_cases e : a = b
      · exact .inr (.inr (.inr ⟨e.symm, h⟩))
      · rcases UInt8.lt_or_lt_of_ne e with g | g
        · exact .inl (.inl g)
        · exact .inr (.inr (.inl g))
theorem putB_leq {n m : Int} (h0 : 0 ≤ n) (h : n ≤ m) (h1 : m < 4611686018427387904) : (Op.bytesLess (putB n).toList (putB m).toList || n == m) = true := by
  have a := putB_less h0 h h1
  have b := putB_inj h0 (show n < 4611686018427387904 by omega) (show 0 ≤ m by omega) h1
  rcases less_total (putB n).toList (putB m).toList with c | c | c
  · rw [c]; rfl
  · rw [← b, c, beq_self_eq_true, Bool.or_true]
  · rw [a] at c; cases c
set_option maxHeartbeats 1600000 in
theorem NumLengths_walk (n m : Int) (w : World) (h0 : 0 ≤ n) (h1 : 0 ≤ m) :
    Calls Try.prog 5 #[.int .u64 n, .int .u64 m] w fun e w' => e = .returned (.bool true) ∧ Below w.heap.size w w' := by
  by_cases hlt : m % 4611686018427387904 < n % 4611686018427387904
  · have c1 : decide (m % 4611686018427387904 < n % 4611686018427387904) = true := by simpa using hlt
    have H1 := Lib.hid (fun w1 => put_any (m % 4611686018427387904) w1 (by omega))
    have H2 := Lib.hid (fun w1 => put_any (n % 4611686018427387904) w1 (by omega))
    rw [putE_small (by omega)] at H1 H2
    have HF := Lib.hid (putB_leq (n := m % 4611686018427387904) (m := n % 4611686018427387904) (by omega) (by omega) (by omega))
    have hd : Op.bytesLess (putB (m % 4611686018427387904)).toList (putB (n % 4611686018427387904)).toList = true ∨ m % 4611686018427387904 = n % 4611686018427387904 := by simpa using HF.out
    have heq := putB_inj (n := m % 4611686018427387904) (m := n % 4611686018427387904) (by omega) (by omega) (by omega) (by omega)
    have hle : (putB (m % 4611686018427387904)).size ≤ (putB (n % 4611686018427387904)).size := putB_mono (by omega) (by omega) (by omega)
    have hs : (putB (n % 4611686018427387904)).size = 1 ∨ (putB (n % 4611686018427387904)).size = 2 ∨ (putB (n % 4611686018427387904)).size = 4 ∨ (putB (n % 4611686018427387904)).size = 8 := putB_sizes (by omega)
    rcases hs with hs | hs | hs | hs
    · skip
      have hx0 : (putB (m % 4611686018427387904)).size ≤ 1 := by omega
      clear hle
      go_enter Try.func5, Try.ntmps5
      go_wp2_with (first | (go_at_call 8; (with_reducible refine (fixed_any _).mono ?_); rintro e wf ⟨rfl, hbf⟩) | (go_at_call 9; (with_reducible refine (H1.out _).mono ?_); rintro e w1 ⟨rfl, hbw1⟩) | (go_at_call 9; (with_reducible refine (H2.out _).mono ?_); rintro e w2 ⟨rfl, hbw2⟩))
      go_ret
      first | exact ⟨rfl, by repeat (first | exact Below.refl _ _ | assumption | apply pw_below_drewN | refine below_step ?_ (by assumption))⟩ | exact ⟨congrArg (fun b => Ending.returned (Value.bool b)) HF.out, by repeat (first | exact Below.refl _ _ | assumption | apply pw_below_drewN | refine below_step ?_ (by assumption))⟩
    · skip
      have hx0 : (putB (m % 4611686018427387904)).size ≤ 2 := by omega
      clear hle
      go_enter Try.func5, Try.ntmps5
      go_wp2_with (first | (go_at_call 8; (with_reducible refine (fixed_any _).mono ?_); rintro e wf ⟨rfl, hbf⟩) | (go_at_call 9; (with_reducible refine (H1.out _).mono ?_); rintro e w1 ⟨rfl, hbw1⟩) | (go_at_call 9; (with_reducible refine (H2.out _).mono ?_); rintro e w2 ⟨rfl, hbw2⟩))
      go_ret
      first | exact ⟨rfl, by repeat (first | exact Below.refl _ _ | assumption | apply pw_below_drewN | refine below_step ?_ (by assumption))⟩ | exact ⟨congrArg (fun b => Ending.returned (Value.bool b)) HF.out, by repeat (first | exact Below.refl _ _ | assumption | apply pw_below_drewN | refine below_step ?_ (by assumption))⟩
    · skip
      have hx0 : (putB (m % 4611686018427387904)).size ≤ 4 := by omega
      clear hle
      go_enter Try.func5, Try.ntmps5
      go_wp2_with (first | (go_at_call 8; (with_reducible refine (fixed_any _).mono ?_); rintro e wf ⟨rfl, hbf⟩) | (go_at_call 9; (with_reducible refine (H1.out _).mono ?_); rintro e w1 ⟨rfl, hbw1⟩) | (go_at_call 9; (with_reducible refine (H2.out _).mono ?_); rintro e w2 ⟨rfl, hbw2⟩))
      go_ret
      first | exact ⟨rfl, by repeat (first | exact Below.refl _ _ | assumption | apply pw_below_drewN | refine below_step ?_ (by assumption))⟩ | exact ⟨congrArg (fun b => Ending.returned (Value.bool b)) HF.out, by repeat (first | exact Below.refl _ _ | assumption | apply pw_below_drewN | refine below_step ?_ (by assumption))⟩
    · skip
      have hx0 : (putB (m % 4611686018427387904)).size ≤ 8 := by omega
      clear hle
      go_enter Try.func5, Try.ntmps5
      go_wp2_with (first | (go_at_call 8; (with_reducible refine (fixed_any _).mono ?_); rintro e wf ⟨rfl, hbf⟩) | (go_at_call 9; (with_reducible refine (H1.out _).mono ?_); rintro e w1 ⟨rfl, hbw1⟩) | (go_at_call 9; (with_reducible refine (H2.out _).mono ?_); rintro e w2 ⟨rfl, hbw2⟩))
      go_ret
      first | exact ⟨rfl, by repeat (first | exact Below.refl _ _ | assumption | apply pw_below_drewN | refine below_step ?_ (by assumption))⟩ | exact ⟨congrArg (fun b => Ending.returned (Value.bool b)) HF.out, by repeat (first | exact Below.refl _ _ | assumption | apply pw_below_drewN | refine below_step ?_ (by assumption))⟩
  · have c1 : decide (m % 4611686018427387904 < n % 4611686018427387904) = false := by simpa using hlt
    have H1 := Lib.hid (fun w1 => put_any (n % 4611686018427387904) w1 (by omega))
    have H2 := Lib.hid (fun w1 => put_any (m % 4611686018427387904) w1 (by omega))
    rw [putE_small (by omega)] at H1 H2
    have HF := Lib.hid (putB_leq (n := n % 4611686018427387904) (m := m % 4611686018427387904) (by omega) (by omega) (by omega))
    have hd : Op.bytesLess (putB (n % 4611686018427387904)).toList (putB (m % 4611686018427387904)).toList = true ∨ n % 4611686018427387904 = m % 4611686018427387904 := by simpa using HF.out
    have heq := putB_inj (n := n % 4611686018427387904) (m := m % 4611686018427387904) (by omega) (by omega) (by omega) (by omega)
    have hle : (putB (n % 4611686018427387904)).size ≤ (putB (m % 4611686018427387904)).size := putB_mono (by omega) (by omega) (by omega)
    have hs : (putB (m % 4611686018427387904)).size = 1 ∨ (putB (m % 4611686018427387904)).size = 2 ∨ (putB (m % 4611686018427387904)).size = 4 ∨ (putB (m % 4611686018427387904)).size = 8 := putB_sizes (by omega)
    rcases hs with hs | hs | hs | hs
    · skip
      have hx0 : (putB (n % 4611686018427387904)).size ≤ 1 := by omega
      clear hle
      go_enter Try.func5, Try.ntmps5
      go_wp2_with (first | (go_at_call 8; (with_reducible refine (fixed_any _).mono ?_); rintro e wf ⟨rfl, hbf⟩) | (go_at_call 9; (with_reducible refine (H1.out _).mono ?_); rintro e w1 ⟨rfl, hbw1⟩) | (go_at_call 9; (with_reducible refine (H2.out _).mono ?_); rintro e w2 ⟨rfl, hbw2⟩))
      go_ret
      first | exact ⟨rfl, by repeat (first | exact Below.refl _ _ | assumption | apply pw_below_drewN | refine below_step ?_ (by assumption))⟩ | exact ⟨congrArg (fun b => Ending.returned (Value.bool b)) HF.out, by repeat (first | exact Below.refl _ _ | assumption | apply pw_below_drewN | refine below_step ?_ (by assumption))⟩
    · skip
      have hx0 : (putB (n % 4611686018427387904)).size ≤ 2 := by omega
      clear hle
      go_enter Try.func5, Try.ntmps5
      go_wp2_with (first | (go_at_call 8; (with_reducible refine (fixed_any _).mono ?_); rintro e wf ⟨rfl, hbf⟩) | (go_at_call 9; (with_reducible refine (H1.out _).mono ?_); rintro e w1 ⟨rfl, hbw1⟩) | (go_at_call 9; (with_reducible refine (H2.out _).mono ?_); rintro e w2 ⟨rfl, hbw2⟩))
      go_ret
      first | exact ⟨rfl, by repeat (first | exact Below.refl _ _ | assumption | apply pw_below_drewN | refine below_step ?_ (by assumption))⟩ | exact ⟨congrArg (fun b => Ending.returned (Value.bool b)) HF.out, by repeat (first | exact Below.refl _ _ | assumption | apply pw_below_drewN | refine below_step ?_ (by assumption))⟩
    · skip
      have hx0 : (putB (n % 4611686018427387904)).size ≤ 4 := by omega
      clear hle
      go_enter Try.func5, Try.ntmps5
      go_wp2_with (first | (go_at_call 8; (with_reducible refine (fixed_any _).mono ?_); rintro e wf ⟨rfl, hbf⟩) | (go_at_call 9; (with_reducible refine (H1.out _).mono ?_); rintro e w1 ⟨rfl, hbw1⟩) | (go_at_call 9; (with_reducible refine (H2.out _).mono ?_); rintro e w2 ⟨rfl, hbw2⟩))
      go_ret
      first | exact ⟨rfl, by repeat (first | exact Below.refl _ _ | assumption | apply pw_below_drewN | refine below_step ?_ (by assumption))⟩ | exact ⟨congrArg (fun b => Ending.returned (Value.bool b)) HF.out, by repeat (first | exact Below.refl _ _ | assumption | apply pw_below_drewN | refine below_step ?_ (by assumption))⟩
    · skip
      have hx0 : (putB (n % 4611686018427387904)).size ≤ 8 := by omega
      clear hle
      go_enter Try.func5, Try.ntmps5
      go_wp2_with (first | (go_at_call 8; (with_reducible refine (fixed_any _).mono ?_); rintro e wf ⟨rfl, hbf⟩) | (go_at_call 9; (with_reducible refine (H1.out _).mono ?_); rintro e w1 ⟨rfl, hbw1⟩) | (go_at_call 9; (with_reducible refine (H2.out _).mono ?_); rintro e w2 ⟨rfl, hbw2⟩))
      go_ret
      first | exact ⟨rfl, by repeat (first | exact Below.refl _ _ | assumption | apply pw_below_drewN | refine below_step ?_ (by assumption))⟩ | exact ⟨congrArg (fun b => Ending.returned (Value.bool b)) HF.out, by repeat (first | exact Below.refl _ _ | assumption | apply pw_below_drewN | refine below_step ?_ (by assumption))⟩

end Go.Proofs.Ytegmecnfohmeeaa.Num

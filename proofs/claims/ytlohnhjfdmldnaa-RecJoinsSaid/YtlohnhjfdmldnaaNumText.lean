/- GetText and PutText, of the program and of the reference (own text). -/
import Derived.Test.YtlohnhjfdmldnaaNumRefGet
import Derived.Lib.Hide
namespace Go.Proofs.Ytlohnhjfdmldnaa.Num
open Go.RowKit Go.Proofs.YtlohnhjfdmldnaaW.PrintWords Go.Proofs.YtlohnhjfdmldnaaW.PrintLast Go.Proofs.YtlohnhjfdmldnaaW.PrintMore
set_option linter.unusedVariables false
set_option linter.unusedSimpArgs false

theorem wide_pos (c : Int) : 1 ≤ wide c ∧ wide c ≤ 8 := by
  unfold wide; split
  · decide
  · split
    · decide
    · split <;> decide
/-- What Get tells lies within bounds. -/
theorem getS_range (s : ByteArray) (a : Int) : 0 ≤ (getS s a).1 ∧ (getS s a).1 < 4611686018427387904 ∧ 0 ≤ (getS s a).2.1 ∧ (getS s a).2.1 ≤ s.size ∧ 0 ≤ (getS s a).2.2 ∧ (getS s a).2.2 ≤ 3 := by
  unfold getS
  split
  · simp
  split
  · simp
  split
  · simp
  rename_i h1 h2 h3
  have hw := wide_pos (byt s a / 64)
  have h4 := nval_pos s a (wide (byt s a / 64) - 1)
  have h5 := nval_max s a (wide (byt s a / 64) - 1) (by omega)
  unfold whole
  split
  · simp
  · refine ⟨h4, h5, ?_, ?_, ?_, ?_⟩ <;> simp only [] <;> omega
/-- What GetText tells: the text, the place behind it, the error's number. -/
def textS (s : ByteArray) (a most : Int) : ByteArray × Int × Int :=
  if (getS s a).2.2 = 0 then
    (if most < 0 ∨ (getS s a).1 > most then (⟨#[]⟩, 0, 4)
     else if (getS s a).1 > s.size - (getS s a).2.1 then (⟨#[]⟩, 0, 2)
     else (s.extract (getS s a).2.1.toNat ((getS s a).2.1 + (getS s a).1).toNat, (getS s a).2.1 + (getS s a).1, 0))
  else (⟨#[]⟩, 0, (getS s a).2.2)
def textV (r : ByteArray × Int × Int) : Value := .tuple #[.string r.1, .int .i64 r.2.1, .int .i64 r.2.2]
/-- The same from Get's own answer. -/
def textOf (s : ByteArray) (most : Int) (n p e : Int) : ByteArray × Int × Int :=
  if e = 0 then
    (if most < 0 ∨ n > most then (⟨#[]⟩, 0, 4)
     else if n > s.size - p then (⟨#[]⟩, 0, 2)
     else (s.extract p.toNat (p + n).toNat, p + n, 0))
  else (⟨#[]⟩, 0, e)
theorem textS_of (s : ByteArray) (a most : Int) : textS s a most = textOf s most (getS s a).1 (getS s a).2.1 (getS s a).2.2 := rfl
/-- A text's bytes, its length ahead. -/
def textB (t : ByteArray) : ByteArray := putB t.size ++ t

set_option maxHeartbeats 400000 in
theorem getText_err (s : ByteArray) (a most : Int) (w : World) (hs : s.size ≤ maxLen) (hm : most ≤ 9223372036854775807) (n p er : Int) (he : getS s a = (n, p, er)) (h : er ≠ 0) :
    Calls Try.prog 55 #[.string s, .int .i64 a, .int .i64 most] w fun e w' => e = .returned (textV (⟨#[]⟩, 0, er)) ∧ Below w.heap.size w w' := by
  have hg := get_any s a w hs
  have hr := getS_range s a
  rw [he] at hg hr
  simp only [getV] at hg
  simp only [] at hr
  have HG := Lib.hid hg
  clear hg he
  unfold maxLen at hs
  have c1 : (er == 0) = false := by simpa using h
  go_enter Try.func55, Try.ntmps55
  go_wp2_with (go_at_call 56; (with_reducible refine HG.out.mono ?_); rintro e w1 ⟨rfl, nd, rfl⟩; have hb := pw_below_drewN (Below.refl w.heap.size w) nd)
  go_ret3
  exact ⟨rfl, by repeat (first | exact hb | apply pw_below_drewN | apply below_drew1)⟩

set_option maxHeartbeats 400000 in
theorem getText_neg (s : ByteArray) (a most : Int) (w : World) (hs : s.size ≤ maxLen) (hm : most ≤ 9223372036854775807) (n p : Int) (he : getS s a = (n, p, 0)) (h : most < 0) :
    Calls Try.prog 55 #[.string s, .int .i64 a, .int .i64 most] w fun e w' => e = .returned (textV (⟨#[]⟩, 0, 4)) ∧ Below w.heap.size w w' := by
  have hg := get_any s a w hs
  have hr := getS_range s a
  rw [he] at hg hr
  simp only [getV] at hg
  simp only [] at hr
  have HG := Lib.hid hg
  clear hg he
  unfold maxLen at hs
  have c1 : decide (most < 0) = true := by simpa using h
  go_enter Try.func55, Try.ntmps55
  go_wp2_with (go_at_call 56; (with_reducible refine HG.out.mono ?_); rintro e w1 ⟨rfl, nd, rfl⟩; have hb := pw_below_drewN (Below.refl w.heap.size w) nd)
  go_ret3
  exact ⟨rfl, by repeat (first | exact hb | apply pw_below_drewN | apply below_drew1)⟩

set_option maxHeartbeats 400000 in
theorem getText_long (s : ByteArray) (a most : Int) (w : World) (hs : s.size ≤ maxLen) (hm : most ≤ 9223372036854775807) (n p : Int) (he : getS s a = (n, p, 0)) (h : 0 ≤ most) (h1 : most < n) :
    Calls Try.prog 55 #[.string s, .int .i64 a, .int .i64 most] w fun e w' => e = .returned (textV (⟨#[]⟩, 0, 4)) ∧ Below w.heap.size w w' := by
  have hg := get_any s a w hs
  have hr := getS_range s a
  rw [he] at hg hr
  simp only [getV] at hg
  simp only [] at hr
  have HG := Lib.hid hg
  clear hg he
  unfold maxLen at hs
  have hw : IntKind.u64.wrap most = most := IntWalk.u64_in _ ⟨h, by omega⟩
  have c1 : decide (most < 0) = false := by simpa using h
  have c2 : decide (most < n) = true := by simpa using h1
  go_enter Try.func55, Try.ntmps55
  go_wp2_with (go_at_call 56; (with_reducible refine HG.out.mono ?_); rintro e w1 ⟨rfl, nd, rfl⟩; have hb := pw_below_drewN (Below.refl w.heap.size w) nd)
  go_ret3
  exact ⟨rfl, by repeat (first | exact hb | apply pw_below_drewN | apply below_drew1)⟩

set_option maxHeartbeats 400000 in
theorem getText_short (s : ByteArray) (a most : Int) (w : World) (hs : s.size ≤ maxLen) (hm : most ≤ 9223372036854775807) (n p : Int) (he : getS s a = (n, p, 0)) (h : 0 ≤ most) (h1 : n ≤ most) (h2 : (s.size : Int) - p < n) :
    Calls Try.prog 55 #[.string s, .int .i64 a, .int .i64 most] w fun e w' => e = .returned (textV (⟨#[]⟩, 0, 2)) ∧ Below w.heap.size w w' := by
  have hg := get_any s a w hs
  have hr := getS_range s a
  rw [he] at hg hr
  simp only [getV] at hg
  simp only [] at hr
  have HG := Lib.hid hg
  clear hg he
  unfold maxLen at hs
  have hw : IntKind.u64.wrap most = most := IntWalk.u64_in _ ⟨h, by omega⟩
  have c1 : decide (most < 0) = false := by simpa using h
  have c2 : decide (most < n) = false := by simpa using h1
  have c3 : decide ((s.size : Int) - p < n) = true := by simpa using h2
  go_enter Try.func55, Try.ntmps55
  go_wp2_with (go_at_call 56; (with_reducible refine HG.out.mono ?_); rintro e w1 ⟨rfl, nd, rfl⟩; have hb := pw_below_drewN (Below.refl w.heap.size w) nd)
  go_ret3
  exact ⟨rfl, by repeat (first | exact hb | apply pw_below_drewN | apply below_drew1)⟩

set_option maxHeartbeats 400000 in
theorem getText_ok (s : ByteArray) (a most : Int) (w : World) (hs : s.size ≤ maxLen) (hm : most ≤ 9223372036854775807) (n p : Int) (he : getS s a = (n, p, 0)) (h : 0 ≤ most) (h1 : n ≤ most) (h2 : n ≤ (s.size : Int) - p) :
    Calls Try.prog 55 #[.string s, .int .i64 a, .int .i64 most] w fun e w' => e = .returned (textV (s.extract p.toNat (p + n).toNat, p + n, 0)) ∧ Below w.heap.size w w' := by
  have hg := get_any s a w hs
  have hr := getS_range s a
  rw [he] at hg hr
  simp only [getV] at hg
  simp only [] at hr
  have HG := Lib.hid hg
  clear hg he
  unfold maxLen at hs
  have hw : IntKind.u64.wrap most = most := IntWalk.u64_in _ ⟨h, by omega⟩
  have c1 : decide (most < 0) = false := by simpa using h
  have c2 : decide (most < n) = false := by simpa using h1
  have c3 : decide ((s.size : Int) - p < n) = false := by simpa using h2
  go_enter Try.func55, Try.ntmps55
  go_wp2_with (go_at_call 56; (with_reducible refine HG.out.mono ?_); rintro e w1 ⟨rfl, nd, rfl⟩; have hb := pw_below_drewN (Below.refl w.heap.size w) nd)
  go_ret3
  exact ⟨rfl, by repeat (first | exact hb | apply pw_below_drewN | apply below_drew1)⟩

set_option maxHeartbeats 400000 in
theorem refGetText_err (s : ByteArray) (a most : Int) (w : World) (hs : s.size ≤ maxLen) (hm : most ≤ 9223372036854775807) (n p er : Int) (he : getS s a = (n, p, er)) (h : er ≠ 0) :
    Calls Try.prog 45 #[.string s, .int .i64 a, .int .i64 most] w fun e w' => e = .returned (textV (⟨#[]⟩, 0, er)) ∧ Below w.heap.size w w' := by
  have hg := refGet_any s a w hs
  have hr := getS_range s a
  rw [he] at hg hr
  simp only [getV] at hg
  simp only [] at hr
  have HG := Lib.hid hg
  clear hg he
  unfold maxLen at hs
  have c1 : (er == 0) = false := by simpa using h
  go_enter Try.func45, Try.ntmps45
  go_wp2_with (go_at_call 46; (with_reducible refine HG.out.mono ?_); rintro e w1 ⟨rfl, hb⟩)
  go_ret3
  exact ⟨rfl, by repeat (first | exact hb | apply pw_below_drewN | apply below_drew1)⟩

set_option maxHeartbeats 400000 in
theorem refGetText_neg (s : ByteArray) (a most : Int) (w : World) (hs : s.size ≤ maxLen) (hm : most ≤ 9223372036854775807) (n p : Int) (he : getS s a = (n, p, 0)) (h : most < 0) :
    Calls Try.prog 45 #[.string s, .int .i64 a, .int .i64 most] w fun e w' => e = .returned (textV (⟨#[]⟩, 0, 4)) ∧ Below w.heap.size w w' := by
  have hg := refGet_any s a w hs
  have hr := getS_range s a
  rw [he] at hg hr
  simp only [getV] at hg
  simp only [] at hr
  have HG := Lib.hid hg
  clear hg he
  unfold maxLen at hs
  have c1 : decide (most < 0) = true := by simpa using h
  go_enter Try.func45, Try.ntmps45
  go_wp2_with (go_at_call 46; (with_reducible refine HG.out.mono ?_); rintro e w1 ⟨rfl, hb⟩)
  go_ret3
  exact ⟨rfl, by repeat (first | exact hb | apply pw_below_drewN | apply below_drew1)⟩

set_option maxHeartbeats 400000 in
theorem refGetText_long (s : ByteArray) (a most : Int) (w : World) (hs : s.size ≤ maxLen) (hm : most ≤ 9223372036854775807) (n p : Int) (he : getS s a = (n, p, 0)) (h : 0 ≤ most) (h1 : most < n) :
    Calls Try.prog 45 #[.string s, .int .i64 a, .int .i64 most] w fun e w' => e = .returned (textV (⟨#[]⟩, 0, 4)) ∧ Below w.heap.size w w' := by
  have hg := refGet_any s a w hs
  have hr := getS_range s a
  rw [he] at hg hr
  simp only [getV] at hg
  simp only [] at hr
  have HG := Lib.hid hg
  clear hg he
  unfold maxLen at hs
  have hw : IntKind.u64.wrap most = most := IntWalk.u64_in _ ⟨h, by omega⟩
  have c1 : decide (most < 0) = false := by simpa using h
  have c2 : decide (most < n) = true := by simpa using h1
  go_enter Try.func45, Try.ntmps45
  go_wp2_with (go_at_call 46; (with_reducible refine HG.out.mono ?_); rintro e w1 ⟨rfl, hb⟩)
  go_ret3
  exact ⟨rfl, by repeat (first | exact hb | apply pw_below_drewN | apply below_drew1)⟩

set_option maxHeartbeats 400000 in
theorem refGetText_short (s : ByteArray) (a most : Int) (w : World) (hs : s.size ≤ maxLen) (hm : most ≤ 9223372036854775807) (n p : Int) (he : getS s a = (n, p, 0)) (h : 0 ≤ most) (h1 : n ≤ most) (h2 : (s.size : Int) - p < n) :
    Calls Try.prog 45 #[.string s, .int .i64 a, .int .i64 most] w fun e w' => e = .returned (textV (⟨#[]⟩, 0, 2)) ∧ Below w.heap.size w w' := by
  have hg := refGet_any s a w hs
  have hr := getS_range s a
  rw [he] at hg hr
  simp only [getV] at hg
  simp only [] at hr
  have HG := Lib.hid hg
  clear hg he
  unfold maxLen at hs
  have hw : IntKind.u64.wrap most = most := IntWalk.u64_in _ ⟨h, by omega⟩
  have c1 : decide (most < 0) = false := by simpa using h
  have c2 : decide (most < n) = false := by simpa using h1
  have c3 : decide ((s.size : Int) - p < n) = true := by simpa using h2
  go_enter Try.func45, Try.ntmps45
  go_wp2_with (go_at_call 46; (with_reducible refine HG.out.mono ?_); rintro e w1 ⟨rfl, hb⟩)
  go_ret3
  exact ⟨rfl, by repeat (first | exact hb | apply pw_below_drewN | apply below_drew1)⟩

set_option maxHeartbeats 400000 in
theorem refGetText_ok (s : ByteArray) (a most : Int) (w : World) (hs : s.size ≤ maxLen) (hm : most ≤ 9223372036854775807) (n p : Int) (he : getS s a = (n, p, 0)) (h : 0 ≤ most) (h1 : n ≤ most) (h2 : n ≤ (s.size : Int) - p) :
    Calls Try.prog 45 #[.string s, .int .i64 a, .int .i64 most] w fun e w' => e = .returned (textV (s.extract p.toNat (p + n).toNat, p + n, 0)) ∧ Below w.heap.size w w' := by
  have hg := refGet_any s a w hs
  have hr := getS_range s a
  rw [he] at hg hr
  simp only [getV] at hg
  simp only [] at hr
  have HG := Lib.hid hg
  clear hg he
  unfold maxLen at hs
  have hw : IntKind.u64.wrap most = most := IntWalk.u64_in _ ⟨h, by omega⟩
  have c1 : decide (most < 0) = false := by simpa using h
  have c2 : decide (most < n) = false := by simpa using h1
  have c3 : decide ((s.size : Int) - p < n) = false := by simpa using h2
  go_enter Try.func45, Try.ntmps45
  go_wp2_with (go_at_call 46; (with_reducible refine HG.out.mono ?_); rintro e w1 ⟨rfl, hb⟩)
  go_ret3
  exact ⟨rfl, by repeat (first | exact hb | apply pw_below_drewN | apply below_drew1)⟩

set_option maxHeartbeats 400000 in
theorem putText_any (t : ByteArray) (w : World) (hs : t.size ≤ 9223372036854775000) :
    Calls Try.prog 39 #[.string t] w fun e w' => e = .returned (.string (textB t)) ∧ Below w.heap.size w w' := by
  have hp := put_any t.size w (by omega)
  have hz : (putB t.size).size ≤ 8 := by
    by_cases h : (t.size : Int) < 4611686018427387904
    · rw [putB_size h, bytesL_length]; (repeat' split) <;> decide
    · have e1 : putB t.size = ⟨#[]⟩ := if_pos (by omega)
      rw [e1]; decide
  have HG := Lib.hid hp
  clear hp
  go_enter Try.func39, Try.ntmps39
  go_wp2_with (go_at_call 40; (with_reducible refine HG.out.mono ?_); rintro e w1 ⟨rfl, hb⟩)
  go_ret
  exact ⟨rfl, hb⟩

set_option maxHeartbeats 400000 in
theorem refText_any (t : ByteArray) (w : World) (hs : t.size ≤ 9223372036854775000) :
    Calls Try.prog 41 #[.string t] w fun e w' => e = .returned (.string (textB t)) ∧ Below w.heap.size w w' := by
  have hp := refPut_any t.size w (by omega)
  have hz : (putB t.size).size ≤ 8 := by
    by_cases h : (t.size : Int) < 4611686018427387904
    · rw [putB_size h, bytesL_length]; (repeat' split) <;> decide
    · have e1 : putB t.size = ⟨#[]⟩ := if_pos (by omega)
      rw [e1]; decide
  have HG := Lib.hid hp
  clear hp
  go_enter Try.func41, Try.ntmps41
  go_wp2_with (go_at_call 42; (with_reducible refine HG.out.mono ?_); rintro e w1 ⟨rfl, hb⟩)
  go_ret
  exact ⟨rfl, hb⟩

theorem getText_any (s : ByteArray) (a most : Int) (w : World) (hs : s.size ≤ maxLen) (hm : most ≤ 9223372036854775807) :
    Calls Try.prog 55 #[.string s, .int .i64 a, .int .i64 most] w fun e w' => e = .returned (textV (textS s a most)) ∧ Below w.heap.size w w' := by
  rw [textS_of]
  obtain ⟨n, p, er, he⟩ : ∃ n p er, getS s a = (n, p, er) := ⟨_, _, _, rfl⟩
  rw [he]
  unfold textOf
  by_cases h : er = 0
  · subst h
    rw [if_pos rfl]
    by_cases h1 : most < 0 ∨ n > most
    · rw [if_pos h1]
      by_cases h2 : most < 0
      · exact getText_neg s a most w hs hm n p he h2
      · exact getText_long s a most w hs hm n p he (by omega) (by omega)
    · rw [if_neg h1]
      by_cases h2 : n > (s.size : Int) - p
      · rw [if_pos h2]; exact getText_short s a most w hs hm n p he (by omega) (by omega) h2
      · rw [if_neg h2]; exact getText_ok s a most w hs hm n p he (by omega) (by omega) (by omega)
  · rw [if_neg h]; exact getText_err s a most w hs hm n p er he h

theorem refGetText_any (s : ByteArray) (a most : Int) (w : World) (hs : s.size ≤ maxLen) (hm : most ≤ 9223372036854775807) :
    Calls Try.prog 45 #[.string s, .int .i64 a, .int .i64 most] w fun e w' => e = .returned (textV (textS s a most)) ∧ Below w.heap.size w w' := by
  rw [textS_of]
  obtain ⟨n, p, er, he⟩ : ∃ n p er, getS s a = (n, p, er) := ⟨_, _, _, rfl⟩
  rw [he]
  unfold textOf
  by_cases h : er = 0
  · subst h
    rw [if_pos rfl]
    by_cases h1 : most < 0 ∨ n > most
    · rw [if_pos h1]
      by_cases h2 : most < 0
      · exact refGetText_neg s a most w hs hm n p he h2
      · exact refGetText_long s a most w hs hm n p he (by omega) (by omega)
    · rw [if_neg h1]
      by_cases h2 : n > (s.size : Int) - p
      · rw [if_pos h2]; exact refGetText_short s a most w hs hm n p he (by omega) (by omega) h2
      · rw [if_neg h2]; exact refGetText_ok s a most w hs hm n p he (by omega) (by omega) (by omega)
  · rw [if_neg h]; exact refGetText_err s a most w hs hm n p er he h

end Go.Proofs.Ytlohnhjfdmldnaa.Num

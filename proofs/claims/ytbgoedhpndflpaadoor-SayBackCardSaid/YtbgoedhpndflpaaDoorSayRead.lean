/- What say.Read reads back of what say.Items says: the plain law (own text). -/
import Derived.Test.YtbgoedhpndflpaaDoorSayLaw
import Derived.Test.YtbgoedhpndflpaaDoorSayQ4
import Derived.Test.YtbgoedhpndflpaaDoorSayNum
namespace Go.Proofs.YtbgoedhpndflpaaDoor.Say
open Go.RowKit Go.Proofs.YtbgoedhpndflpaaDoorW.PrintWords Go.Proofs.YtbgoedhpndflpaaDoorW.PrintLast Go.Proofs.YtbgoedhpndflpaaDoorW.PrintMore Go.Proofs.YtbgoedhpndflpaaDoor.PSay
set_option linter.unusedVariables false
set_option linter.unusedSimpArgs false
/-! ### Keys -/
def okc (c : UInt8) : Bool := decide (33 ≤ c.toNat ∧ c.toNat ≠ 127)
/-- May a key be? -/
def keyP (s : ByteArray) : Bool := s.data.toList.all okc && decide (1 ≤ s.size ∧ s.size ≤ 250)
theorem keyMay_l0 (s : ByteArray) (hs : s.size ≤ 1000000) : ∀ (d i k : Nat), s.size - i = d → i ≤ s.size → d < k →
    rec_KeyMay.l0 k s (s.size : Int) (i : Int) = some ((s.data.toList.drop i).all okc && decide (1 ≤ s.size ∧ s.size ≤ 250)) := by
  intro d
  induction d with
  | zero =>
    intro i k hd hi hk
    obtain ⟨k, rfl⟩ : ∃ m, k = m + 1 := ⟨k - 1, by omega⟩
    obtain rfl : i = s.size := by omega
    simp only [rec_KeyMay.l0]
    rw [if_neg (by omega), drop_end]
    by_cases h1 : (s.size : Int) ≥ 1
    · rw [if_pos h1]
      congr 1
      rw [List.all_nil, Bool.true_and]
      by_cases h2 : (s.size : Int) ≤ 250
      · rw [decide_eq_true h2, decide_eq_true (by omega)]
      · rw [decide_eq_false h2, decide_eq_false (by omega)]
    · rw [if_neg h1, List.all_nil, Bool.true_and, decide_eq_false (by omega)]
  | succ d ih =>
    intro i k hd hi hk
    obtain ⟨k, rfl⟩ : ∃ m, k = m + 1 := ⟨k - 1, by omega⟩
    obtain ⟨c, hc, hb⟩ := drop_bt s i (by omega)
    simp only [rec_KeyMay.l0]
    rw [if_pos (by omega), if_pos (by omega), if_pos (by omega), hb, hc, List.all_cons]
    by_cases h1 : (c.toNat : Int) ≤ 32
    · have : okc c = false := decide_eq_false (by omega)
      rw [if_pos h1, this]; rfl
    · rw [if_neg h1]
      by_cases h2 : (c.toNat : Int) = 127
      · have : okc c = false := decide_eq_false (by omega)
        rw [if_pos h2, this]; rfl
      · have : okc c = true := decide_eq_true ⟨by omega, by omega⟩
        have e2 : wrap64 ((i : Int) + 1) = ((i + 1 : Nat) : Int) := by rw [w64 (by omega) (by omega)]; omega
        rw [if_neg h2, this, Bool.true_and, e2]
        clear e2
        exact ih (i + 1) k (by omega) (by omega) (by omega)
theorem keyMay_is (s : ByteArray) (k : Nat) (hs : s.size ≤ 1000000) (hk : s.size < k) : rec_KeyMay.f k s = some (keyP s) := by
  unfold rec_KeyMay.f keyP
  have h := keyMay_l0 s hs s.size 0 k rfl (by omega) hk
  simpa using h
theorem refKey_l0 (s : ByteArray) (hs : s.size ≤ 250) : ∀ (d i k : Nat), s.size - i = d → i ≤ s.size → d < k →
    tattlerref06_KeyMay.l0 k s (i : Int) = some ((s.data.toList.drop i).all okc) := by
  intro d
  induction d with
  | zero =>
    intro i k hd hi hk
    obtain ⟨k, rfl⟩ : ∃ m, k = m + 1 := ⟨k - 1, by omega⟩
    obtain rfl : i = s.size := by omega
    simp only [tattlerref06_KeyMay.l0]
    rw [if_neg (by omega), drop_end]; rfl
  | succ d ih =>
    intro i k hd hi hk
    obtain ⟨k, rfl⟩ : ∃ m, k = m + 1 := ⟨k - 1, by omega⟩
    obtain ⟨c, hc, hb⟩ := drop_bt s i (by omega)
    simp only [tattlerref06_KeyMay.l0]
    rw [if_pos (by omega), if_pos (by omega), hb, hc, List.all_cons]
    by_cases h1 : (c.toNat : Int) < 33
    · have : okc c = false := decide_eq_false (by omega)
      rw [if_pos h1, this]; rfl
    · rw [if_neg h1]
      by_cases h2 : (c.toNat : Int) = 127
      · have : okc c = false := decide_eq_false (by omega)
        rw [if_pos h2, this]; rfl
      · have : okc c = true := decide_eq_true ⟨by omega, by omega⟩
        have e2 : wrap64 ((i : Int) + 1) = ((i + 1 : Nat) : Int) := by rw [w64 (by omega) (by omega)]; omega
        rw [if_neg h2, this, Bool.true_and, e2]
        clear e2
        exact ih (i + 1) k (by omega) (by omega) (by omega)
theorem refKey_is (s : ByteArray) (k : Nat) (hk : 252 < k) : tattlerref06_KeyMay.f k s = some (keyP s) := by
  obtain ⟨k, rfl⟩ : ∃ m, k = m + 1 := ⟨k - 1, by omega⟩
  unfold tattlerref06_KeyMay.f keyP
  by_cases h1 : (s.size : Int) = 0
  · rw [if_pos h1, decide_eq_false (by omega), Bool.and_false]
    simp only [tattlerref06_KeyMay.j0, if_true]
  · rw [if_neg h1]
    by_cases h2 : (s.size : Int) > 250
    · have h3 : ¬ (1 ≤ s.size ∧ s.size ≤ 250) := by omega
      rw [decide_eq_true h2, decide_eq_false h3, Bool.and_false]
      simp only [tattlerref06_KeyMay.j0, if_true]
    · have h3 : 1 ≤ s.size ∧ s.size ≤ 250 := by omega
      rw [decide_eq_false h2, decide_eq_true h3, Bool.and_true]
      simp only [tattlerref06_KeyMay.j0, Bool.false_eq_true, if_false]
      have h := refKey_l0 s (by omega) s.size 0 k rfl (by omega) (by omega)
      simpa using h
theorem ext_drop (s : ByteArray) (p : Nat) : (s.extract p s.size).data.toList = s.data.toList.drop p := by
  rw [Split.extract_data, List.take_of_length_le (by rw [size_list]; exact Nat.le_refl _)]
theorem index_at : ∀ (x y : List UInt8), (10 : UInt8) ∉ x → Lib.indexByte (x ++ 10 :: y) 10 = (x.length : Int)
  | [], y, _ => by
    rw [List.nil_append, Lib.indexByte]
    rfl
  | b :: x, y, h => by
    have hb : (b == 10) = false := by
      rw [beq_eq_false_iff_ne]
      intro e
      exact h (by rw [e]; exact List.mem_cons_self)
    have ih := index_at x y (fun hm => h (List.mem_cons_of_mem _ hm))
    have h2 : ((x.length : Int) == -1) = false := by
      rw [beq_eq_false_iff_ne]
      omega
    rw [List.cons_append, Lib.indexByte, hb, ih, h2]
    simp
theorem line_law (S : ByteArray) (p k : Nat) (L R : List UInt8) (hS : S.size ≤ 2000000) (hp : p ≤ S.size) (hd : S.data.toList.drop p = L ++ 13 :: 10 :: R) (h10 : (10 : UInt8) ∉ L) (hl : L.length ≤ 290) (hk : 3 < k) :
    say_line.f k S (p : Int) = some (⟨L.toArray⟩, ((p + L.length + 2 : Nat) : Int), 0) := by
  obtain ⟨k, rfl⟩ : ∃ m, k = m + 2 := ⟨k - 2, by omega⟩
  have hX : (S.extract p S.size).data.toList = L ++ 13 :: 10 :: R := by rw [ext_drop, hd]
  have hi : Lib.indexByte (S.extract p S.size).data.toList 10 = ((L.length + 1 : Nat) : Int) := by
    rw [hX, show L ++ 13 :: 10 :: R = (L ++ [13]) ++ 10 :: R by simp, index_at _ _ (by
      intro hm
      rcases List.mem_append.1 hm with hm | hm
      · exact h10 hm
      · rw [List.mem_singleton] at hm; exact absurd hm (by decide))]
    rw [List.length_append]; rfl
  have hb : (S.extract p S.size).data.toList.drop L.length = 13 :: 10 :: R := by rw [hX]; exact List.drop_left' rfl
  obtain ⟨b1, b2⟩ := bt_of hb
  have hx0 : (S.extract p S.size).extract 0 L.length = ⟨L.toArray⟩ := ext_list (by
    rw [Split.extract_data, hX, List.drop_zero]
    exact List.take_left' rfl)
  have ew : wrap64 (((L.length + 1 : Nat) : Int) - 1) = (L.length : Int) := by rw [w64 (by omega) (by omega)]; omega
  have en : wrap64 (wrap64 ((p : Int) + ((L.length + 1 : Nat) : Int)) + 1) = ((p + L.length + 2 : Nat) : Int) := by
    rw [w64 (x := (p : Int) + ((L.length + 1 : Nat) : Int)) (by omega) (by omega), w64 (by omega) (by omega)]; omega
  unfold say_line.f
  rw [if_pos (by omega), if_pos (by omega), Int.toNat_natCast]
  unfold strings_IndexByte.f
  rw [show ((10 : Int).toNat.toUInt8) = (10 : UInt8) from rfl, hi, Option.bind_some]
  generalize S.extract p S.size = X at *
  rw [if_neg (by omega), say_line.j0, if_neg (by decide), decide_eq_false (by omega), say_line.j1, if_neg (by decide), if_neg (by omega), if_neg (by omega), ew, if_pos (by omega), if_pos (by omega), b1, if_pos (by decide), if_pos (by omega), Int.toNat_natCast, hx0, en]
end Go.Proofs.YtbgoedhpndflpaaDoor.Say

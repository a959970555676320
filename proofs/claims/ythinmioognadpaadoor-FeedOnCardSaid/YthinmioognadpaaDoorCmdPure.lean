/- What the printed functions of package cmd and of its reference compute: numbers, keys, words (own text). -/
import Derived.Test.YthinmioognadpaaDoorPCmdx3
import Derived.Test.YthinmioognadpaaDoorSplit
namespace Go.Proofs.YthinmioognadpaaDoor.Cmd
open Go.RowKit Go.Proofs.YthinmioognadpaaDoorW.PrintWords Go.Proofs.YthinmioognadpaaDoorW.PrintLast Go.Proofs.YthinmioognadpaaDoorW.PrintMore Go.Proofs.YthinmioognadpaaDoor.PCmd Go.Proofs.YthinmioognadpaaDoor.Split
set_option linter.unusedVariables false
set_option linter.unusedSimpArgs false
theorem size_list (s : ByteArray) : s.data.toList.length = s.size := by rw [Array.length_toList]; rfl
theorem drop_bt (s : ByteArray) (i : Nat) (h : i < s.size) : ∃ c : UInt8, s.data.toList.drop i = c :: s.data.toList.drop (i + 1) ∧ bt s (i : Int) = (c.toNat : Int) := by
  have h1 : i < s.data.toList.length := by rw [size_list]; exact h
  refine ⟨s.data.toList[i], List.drop_eq_getElem_cons h1, ?_⟩
  have := bt_at s (i : Int) (by rw [Int.toNat_natCast]; exact h)
  rw [← this]
  rfl
theorem drop_end (s : ByteArray) : s.data.toList.drop s.size = [] := List.drop_of_length_le (by rw [size_list]; exact Nat.le_refl _)
theorem w64 {x : Int} (h0 : -9223372036854775808 ≤ x) (h1 : x ≤ 9223372036854775807) : wrap64 x = x := by unfold wrap64; omega
/-! ### Numbers -/
def numL : Nat → List UInt8 → Option Nat
  | n, [] => some n
  | n, c :: r => if 48 ≤ c.toNat ∧ c.toNat ≤ 57 then numL (10 * n + (c.toNat - 48)) r else none
/-- A word's number: 1 to 10 digits. -/
def numP (s : ByteArray) : Option Nat := if s.size = 0 ∨ 10 < s.size then none else numL 0 s.data.toList
def numT : Option Nat → Int × Bool
  | some n => ((n : Int), true)
  | none => (0, false)
theorem numT_some (n : Nat) : numT (some n) = ((n : Int), true) := rfl
theorem numT_none : numT none = (0, false) := rfl
def numM : Option Nat → Int
  | some n => (n : Int)
  | none => -1
theorem numM_some (n : Nat) : numM (some n) = (n : Int) := rfl
theorem numM_none : numM none = -1 := rfl
theorem pow10 (i : Nat) (h : i ≤ 10) : 10 ^ i ≤ 10000000000 := Nat.le_trans (Nat.pow_le_pow_right (by omega) h) (by decide)
theorem number_l0 (s : ByteArray) (hs : s.size ≤ 10) : ∀ (d i n k : Nat), s.size - i = d → i ≤ s.size → d < k → n < 10 ^ i →
    cmd_number.l0 k s (n : Int) (s.size : Int) (i : Int) = some (numT (numL n (s.data.toList.drop i))) := by
  intro d
  induction d with
  | zero =>
    intro i n k hd hi hk hn
    obtain ⟨k, rfl⟩ : ∃ m, k = m + 1 := ⟨k - 1, by omega⟩
    obtain rfl : i = s.size := by omega
    simp only [cmd_number.l0]
    rw [if_neg (by omega), drop_end]
    rfl
  | succ d ih =>
    intro i n k hd hi hk hn
    obtain ⟨k, rfl⟩ : ∃ m, k = m + 1 := ⟨k - 1, by omega⟩
    obtain ⟨c, hc, hb⟩ := drop_bt s i (by omega)
    have hc8 : c.toNat < 256 := c.toNat_lt
    have hp := pow10 i (by omega)
    have hp1 : 10 ^ (i + 1) = 10 * 10 ^ i := by rw [Nat.pow_succ, Nat.mul_comm]
    simp only [cmd_number.l0]
    rw [if_pos (by omega), if_pos (by omega), if_pos (by omega), hb, hc]
    simp only [numL]
    by_cases h1 : (c.toNat : Int) < 48
    · rw [if_pos h1, if_neg (by omega)]; rfl
    · rw [if_neg h1]
      by_cases h2 : (c.toNat : Int) > 57
      · rw [if_pos h2, if_neg (by omega)]; rfl
      · rw [if_neg h2, if_pos (by omega)]
        have e1 : wrap64 (wrap64 (10 * (n : Int)) + ((c.toNat : Int) - 48) % 256) = ((10 * n + (c.toNat - 48) : Nat) : Int) := by
          rw [w64 (x := 10 * (n : Int)) (by omega) (by omega), w64 (by omega) (by omega)]; omega
        have e2 : wrap64 ((i : Int) + 1) = ((i + 1 : Nat) : Int) := by rw [w64 (by omega) (by omega)]; omega
        rw [e1, e2]
        clear e1 e2
        exact ih (i + 1) _ k (by omega) (by omega) (by omega) (by rw [hp1]; omega)
theorem number_is (s : ByteArray) (k : Nat) (hk : 12 ≤ k) : cmd_number.f k s = some (numT (numP s)) := by
  obtain ⟨k, rfl⟩ : ∃ m, k = m + 1 := ⟨k - 1, by omega⟩
  unfold cmd_number.f numP
  by_cases h1 : (s.size : Int) < 1
  · rw [if_pos h1, if_pos (by omega)]
    simp only [cmd_number.j0, if_true]
    rfl
  · rw [if_neg h1]
    by_cases h2 : (s.size : Int) > 10
    · rw [decide_eq_true h2, if_pos (by omega)]
      simp only [cmd_number.j0, if_true]
      rfl
    · rw [decide_eq_false h2, if_neg (by omega)]
      simp only [cmd_number.j0, Bool.false_eq_true, if_false]
      have h := number_l0 s (by omega) s.size 0 0 k rfl (by omega) (by omega) (by simp)
      simpa using h
theorem refNumber_l0 (s : ByteArray) (hs : s.size ≤ 10) : ∀ (d i n k : Nat), s.size - i = d → i ≤ s.size → d < k → n < 10 ^ i →
    tattlerref07_Number.l0 k s (n : Int) (i : Int) = some (numM (numL n (s.data.toList.drop i))) := by
  intro d
  induction d with
  | zero =>
    intro i n k hd hi hk hn
    obtain ⟨k, rfl⟩ : ∃ m, k = m + 1 := ⟨k - 1, by omega⟩
    obtain rfl : i = s.size := by omega
    simp only [tattlerref07_Number.l0]
    rw [if_neg (by omega), drop_end]
    rfl
  | succ d ih =>
    intro i n k hd hi hk hn
    obtain ⟨k, rfl⟩ : ∃ m, k = m + 1 := ⟨k - 1, by omega⟩
    obtain ⟨c, hc, hb⟩ := drop_bt s i (by omega)
    have hc8 : c.toNat < 256 := c.toNat_lt
    have hp := pow10 i (by omega)
    have hp1 : 10 ^ (i + 1) = 10 * 10 ^ i := by rw [Nat.pow_succ, Nat.mul_comm]
    simp only [tattlerref07_Number.l0]
    rw [if_pos (by omega), if_pos (by omega), hb, hc]
    simp only [numL]
    by_cases h1 : (c.toNat : Int) < 48
    · rw [if_pos h1, if_neg (by omega)]; rfl
    · rw [if_neg h1]
      by_cases h2 : (c.toNat : Int) > 57
      · rw [if_pos h2, if_neg (by omega)]; rfl
      · rw [if_neg h2, if_pos (by omega)]
        have e1 : wrap64 (wrap64 (wrap64 ((n : Int) * 10) + wrap64 (c.toNat : Int)) - 48) = ((10 * n + (c.toNat - 48) : Nat) : Int) := by
          rw [w64 (x := (n : Int) * 10) (by omega) (by omega), w64 (x := (c.toNat : Int)) (by omega) (by omega), w64 (x := (n : Int) * 10 + (c.toNat : Int)) (by omega) (by omega), w64 (by omega) (by omega)]; omega
        have e2 : wrap64 ((i : Int) + 1) = ((i + 1 : Nat) : Int) := by rw [w64 (by omega) (by omega)]; omega
        rw [e1, e2]
        clear e1 e2
        exact ih (i + 1) _ k (by omega) (by omega) (by omega) (by rw [hp1]; omega)
theorem refNumber_is (s : ByteArray) (k : Nat) (hk : 12 ≤ k) : tattlerref07_Number.f k s = some (numM (numP s)) := by
  obtain ⟨k, rfl⟩ : ∃ m, k = m + 1 := ⟨k - 1, by omega⟩
  unfold tattlerref07_Number.f numP
  by_cases h1 : (s.size : Int) = 0
  · rw [if_pos h1, if_pos (by omega)]
    simp only [tattlerref07_Number.j0, if_true]
    rfl
  · rw [if_neg h1]
    by_cases h2 : (s.size : Int) > 10
    · rw [decide_eq_true h2, if_pos (by omega)]
      simp only [tattlerref07_Number.j0, if_true]
      rfl
    · rw [decide_eq_false h2, if_neg (by omega)]
      simp only [tattlerref07_Number.j0, Bool.false_eq_true, if_false]
      have h := refNumber_l0 s (by omega) s.size 0 0 k rfl (by omega) (by omega) (by simp)
      simpa using h
theorem numL_lt : ∀ (l : List UInt8) (n m : Nat), numL n l = some m → m < (n + 1) * 10 ^ l.length
  | [], n, m, h => by simp [numL] at h; simp; omega
  | c :: r, n, m, h => by
    simp only [numL] at h
    split at h
    · rename_i hc
      have := numL_lt r _ m h
      rw [List.length_cons, Nat.pow_succ]
      have h2 : (10 * n + (c.toNat - 48) + 1) * 10 ^ r.length ≤ (10 * (n + 1)) * 10 ^ r.length := Nat.mul_le_mul_right _ (by omega)
      have h3 : (n + 1) * (10 ^ r.length * 10) = (10 * (n + 1)) * 10 ^ r.length := by rw [Nat.mul_comm (10 ^ r.length) 10, ← Nat.mul_assoc, Nat.mul_comm (n + 1) 10]
      omega
    · cases h
theorem numP_lt {s : ByteArray} {m : Nat} (h : numP s = some m) : m < 10000000000 := by
  unfold numP at h
  split at h
  · cases h
  · have h1 := numL_lt _ _ _ h
    rw [size_list] at h1
    have := pow10 s.size (by omega)
    omega
/-- An amount: at most 2^32 - 1. -/
def amtP (s : ByteArray) : Option Nat := match numP s with
  | some n => if n ≤ 4294967295 then some n else none
  | none => none
def amtV (s : ByteArray) : Int := (numT (numP s)).1
def amtB (s : ByteArray) : Bool := (amtP s).isSome
theorem amount_is (s : ByteArray) (k : Nat) (hk : 12 ≤ k) : cmd_amount.f k s = some (amtV s, amtB s) := by
  unfold cmd_amount.f amtV amtB amtP
  rw [number_is s k hk]
  generalize numP s = o
  rw [Option.bind_some]
  cases o with
  | none => rfl
  | some n =>
    by_cases h1 : n ≤ 4294967295
    · have h2 : (n : Int) ≤ 4294967295 := by omega
      rw [numT_some]
      show some ((n : Int), decide ((n : Int) ≤ 4294967295)) = some ((n : Int), (if n ≤ 4294967295 then some n else none).isSome)
      rw [if_pos h1, decide_eq_true h2]; rfl
    · have h2 : ¬ (n : Int) ≤ 4294967295 := by omega
      rw [numT_some]
      show some ((n : Int), decide ((n : Int) ≤ 4294967295)) = some ((n : Int), (if n ≤ 4294967295 then some n else none).isSome)
      rw [if_neg h1, decide_eq_false h2]; rfl
theorem refAmount_is (s : ByteArray) (k : Nat) (hk : 12 ≤ k) : tattlerref07_Amount.f k s = some (numM (amtP s)) := by
  unfold tattlerref07_Amount.f amtP
  rw [refNumber_is s k hk]
  generalize numP s = o
  rw [Option.bind_some]
  cases o with
  | none => rfl
  | some n =>
    by_cases h1 : n ≤ 4294967295
    · have h2 : ¬ (n : Int) > 4294967295 := by omega
      rw [numM_some, if_neg h2]
      show _ = some (numM (if n ≤ 4294967295 then some n else none))
      rw [if_pos h1]; rfl
    · have h2 : (n : Int) > 4294967295 := by omega
      rw [numM_some, if_pos h2]
      show _ = some (numM (if n ≤ 4294967295 then some n else none))
      rw [if_neg h1]; rfl
theorem amtV_of {s : ByteArray} {n : Nat} (h : amtP s = some n) : amtV s = n ∧ n ≤ 4294967295 := by
  unfold amtP at h
  unfold amtV
  cases h1 : numP s with
  | none => rw [h1] at h; cases h
  | some m =>
    rw [h1] at h
    simp only at h
    split at h
    · cases h; exact ⟨rfl, by assumption⟩
    · cases h
/-! ### Times -/
def isNeg (s : ByteArray) : Bool := s.data.toList.head? == some 45
def rest1 (s : ByteArray) : ByteArray := s.extract 1 s.size
def momV (s : ByteArray) : Int := if isNeg s then -(numT (numP (rest1 s))).1 else (numT (numP s)).1
def momB (s : ByteArray) : Bool := if isNeg s then (numP (rest1 s)).isSome else (numP s).isSome
theorem numT_1 (o : Option Nat) : (numT o).2 = o.isSome := by cases o <;> rfl
theorem toList_eq (s : ByteArray) : s.toList = s.data.toList := Lib.toList_data s
theorem cutPrefix_is (s : ByteArray) (hs : s.size ≤ 1000000) : strings_CutPrefix.f s ⟨#[45]⟩ = some (if isNeg s then rest1 s else s, isNeg s) := by
  have h45 : ((⟨#[45]⟩ : ByteArray).size : Int) = 1 := rfl
  unfold strings_CutPrefix.f stringslite_CutPrefix.f stringslite_HasPrefix.f
  rw [h45]
  by_cases h1 : (s.size : Int) ≥ 1
  · rw [if_pos h1, if_pos (by omega), if_pos h1]
    simp only [Option.bind_some]
    have e1 : ((s.extract 0 (1 : Int).toNat).toList == (⟨#[45]⟩ : ByteArray).toList) = isNeg s := by
      rw [toList_eq, toList_eq, extract_data]
      unfold isNeg
      have h2 : 0 < s.data.toList.length := by rw [size_list]; omega
      match hl : s.data.toList, h2 with
      | c :: r, _ =>
        have : (1 : Int).toNat = 1 := rfl
        rw [this]
        simp only [List.drop_zero, List.take_succ_cons, List.take_zero, List.head?_cons]
        show ([c] == [45]) = (some c == some 45)
        rw [Bool.eq_iff_iff]
        simp
    rw [e1]
    cases h : isNeg s with
    | true => rw [if_pos rfl, if_pos (by omega), if_pos h1]; rfl
    | false => rw [if_neg (by simp)]; rfl
  · rw [if_neg h1]
    have h2 : isNeg s = false := by
      unfold isNeg
      have : s.data.toList = [] := List.eq_nil_of_length_eq_zero (by rw [size_list]; omega)
      rw [this]; rfl
    rw [h2]
    simp
theorem moment_is (s : ByteArray) (k : Nat) (hk : 12 ≤ k) (hs : s.size ≤ 1000000) : cmd_moment.f k s = some (momV s, momB s) := by
  unfold cmd_moment.f momV momB
  rw [cutPrefix_is s hs]
  simp only [Option.bind_some]
  rw [number_is _ k hk]
  simp only [Option.bind_some]
  cases h : isNeg s with
  | true =>
    simp only [if_true]
    cases h1 : numP (rest1 s) with
    | none => rw [numT_none, w64 (by omega) (by omega)]; rfl
    | some n =>
      have := numP_lt h1
      rw [numT_some, w64 (by omega) (by omega)]; rfl
  | false =>
    simp only [Bool.false_eq_true, if_false]
    rw [numT_1]
theorem refTime_is (s : ByteArray) (k : Nat) (hk : 13 ≤ k) (hs : s.size ≤ 1000000) : tattlerref07_Time.f k s = some ((if momB s then momV s else (tattlerref07_Time.f k s).elim 0 (·.1)), momB s) ∧ (tattlerref07_Time.f k s).isSome = true := by
  obtain ⟨k, rfl⟩ : ∃ m, k = m + 1 := ⟨k - 1, by omega⟩
  have hT : ∀ b, tattlerref07_Time.j0 (k + 1) s b = if b then (if 1 ≤ (s.size : Int) then some (wrap64 (-(numM (numP (rest1 s)))), decide (numM (numP (rest1 s)) ≥ 0)) else none) else some (numM (numP s), decide (numM (numP s) ≥ 0)) := by
    intro b
    simp only [tattlerref07_Time.j0]
    cases b with
    | true =>
      simp only [if_true]
      have : s.extract 1 s.size = rest1 s := rfl
      rw [this, refNumber_is _ k (by omega)]
      rfl
    | false =>
      simp only [Bool.false_eq_true, if_false]
      rw [refNumber_is _ k (by omega)]
      rfl
  have hd : ∀ o : Option Nat, decide (numM o ≥ 0) = o.isSome := by
    intro o
    cases o with
    | none => rfl
    | some n => exact decide_eq_true (by simp [numM])
  have key : tattlerref07_Time.f (k + 1) s = if isNeg s then some (wrap64 (-(numM (numP (rest1 s)))), (numP (rest1 s)).isSome) else some (numM (numP s), (numP s).isSome) := by
    unfold tattlerref07_Time.f
    by_cases h1 : (s.size : Int) > 0
    · rw [if_pos h1, if_pos h1, hT]
      have e : (bt s 0 == 45) = isNeg s := by
        obtain ⟨c, hc, hb⟩ := drop_bt s 0 (by omega)
        rw [List.drop_zero] at hc
        have hb' : bt s 0 = (c.toNat : Int) := hb
        unfold isNeg
        rw [hc, hb', List.head?_cons, Bool.eq_iff_iff]
        simp only [beq_iff_eq, Option.some.injEq]
        constructor
        · intro h; exact UInt8.toNat_inj.1 (Int.ofNat.inj h)
        · intro h; subst h; rfl
      rw [e, hd, hd]
      cases isNeg s with
      | true => simp only [if_true]; rw [if_pos (by omega)]
      | false => simp
    · rw [if_neg h1, hT, hd, hd]
      have h2 : isNeg s = false := by
        unfold isNeg
        have : s.data.toList = [] := List.eq_nil_of_length_eq_zero (by rw [size_list]; omega)
        rw [this]; rfl
      rw [h2]
      simp
  rw [key]
  unfold momB momV
  cases isNeg s with
  | true =>
    simp only [if_true]
    cases h1 : numP (rest1 s) with
    | none => simp
    | some n =>
      have := numP_lt h1
      simp only [numM, numT, Option.isSome_some, if_true]
      rw [w64 (by omega) (by omega)]; simp
  | false =>
    simp only [Bool.false_eq_true, if_false]
    cases h1 : numP s with
    | none => simp
    | some n => simp [numM, numT]
/-! ### Keys -/
def okc (c : UInt8) : Bool := decide (33 ≤ c.toNat ∧ c.toNat ≠ 127)
/-- May a key be? -/
def keyP (s : ByteArray) : Bool := s.data.toList.all okc && decide (1 ≤ s.size ∧ s.size ≤ 250)
theorem keyMay_l0 (s : ByteArray) (hs : s.size ≤ 1000000) : ∀ (d i k : Nat), s.size - i = d → i ≤ s.size → d < k →
    rec_KeyMay.l0 k s (s.size : Int) (i : Int) = some ((s.data.toList.drop i).all okc && decide (1 ≤ s.size ∧ s.size ≤ 250)) := by
  intro d
  induction d with
  | zero =>
    intro i k hd hi hk
    obtain ⟨k, rfl⟩ : ∃ m, k = m + 1 := ⟨k - 1, by omega⟩
    obtain rfl : i = s.size := by omega
    simp only [rec_KeyMay.l0]
    rw [if_neg (by omega), drop_end]
    by_cases h1 : (s.size : Int) ≥ 1
    · rw [if_pos h1]
      congr 1
      rw [List.all_nil, Bool.true_and]
      by_cases h2 : (s.size : Int) ≤ 250
      · rw [decide_eq_true h2, decide_eq_true (by omega)]
      · rw [decide_eq_false h2, decide_eq_false (by omega)]
    · rw [if_neg h1, List.all_nil, Bool.true_and, decide_eq_false (by omega)]
  | succ d ih =>
    intro i k hd hi hk
    obtain ⟨k, rfl⟩ : ∃ m, k = m + 1 := ⟨k - 1, by omega⟩
    obtain ⟨c, hc, hb⟩ := drop_bt s i (by omega)
    simp only [rec_KeyMay.l0]
    rw [if_pos (by omega), if_pos (by omega), if_pos (by omega), hb, hc, List.all_cons]
    by_cases h1 : (c.toNat : Int) ≤ 32
    · have : okc c = false := decide_eq_false (by omega)
      rw [if_pos h1, this]; rfl
    · rw [if_neg h1]
      by_cases h2 : (c.toNat : Int) = 127
      · have : okc c = false := decide_eq_false (by omega)
        rw [if_pos h2, this]; rfl
      · have : okc c = true := decide_eq_true ⟨by omega, by omega⟩
        have e2 : wrap64 ((i : Int) + 1) = ((i + 1 : Nat) : Int) := by rw [w64 (by omega) (by omega)]; omega
        rw [if_neg h2, this, Bool.true_and, e2]
        clear e2
        exact ih (i + 1) k (by omega) (by omega) (by omega)
theorem keyMay_is (s : ByteArray) (k : Nat) (hs : s.size ≤ 1000000) (hk : s.size < k) : rec_KeyMay.f k s = some (keyP s) := by
  unfold rec_KeyMay.f keyP
  have h := keyMay_l0 s hs s.size 0 k rfl (by omega) hk
  simpa using h
theorem refKey_l0 (s : ByteArray) (hs : s.size ≤ 250) : ∀ (d i k : Nat), s.size - i = d → i ≤ s.size → d < k →
    tattlerref06_KeyMay.l0 k s (i : Int) = some ((s.data.toList.drop i).all okc) := by
  intro d
  induction d with
  | zero =>
    intro i k hd hi hk
    obtain ⟨k, rfl⟩ : ∃ m, k = m + 1 := ⟨k - 1, by omega⟩
    obtain rfl : i = s.size := by omega
    simp only [tattlerref06_KeyMay.l0]
    rw [if_neg (by omega), drop_end]; rfl
  | succ d ih =>
    intro i k hd hi hk
    obtain ⟨k, rfl⟩ : ∃ m, k = m + 1 := ⟨k - 1, by omega⟩
    obtain ⟨c, hc, hb⟩ := drop_bt s i (by omega)
    simp only [tattlerref06_KeyMay.l0]
    rw [if_pos (by omega), if_pos (by omega), hb, hc, List.all_cons]
    by_cases h1 : (c.toNat : Int) < 33
    · have : okc c = false := decide_eq_false (by omega)
      rw [if_pos h1, this]; rfl
    · rw [if_neg h1]
      by_cases h2 : (c.toNat : Int) = 127
      · have : okc c = false := decide_eq_false (by omega)
        rw [if_pos h2, this]; rfl
      · have : okc c = true := decide_eq_true ⟨by omega, by omega⟩
        have e2 : wrap64 ((i : Int) + 1) = ((i + 1 : Nat) : Int) := by rw [w64 (by omega) (by omega)]; omega
        rw [if_neg h2, this, Bool.true_and, e2]
        clear e2
        exact ih (i + 1) k (by omega) (by omega) (by omega)
theorem refKey_is (s : ByteArray) (k : Nat) (hk : 252 < k) : tattlerref06_KeyMay.f k s = some (keyP s) := by
  obtain ⟨k, rfl⟩ : ∃ m, k = m + 1 := ⟨k - 1, by omega⟩
  unfold tattlerref06_KeyMay.f keyP
  by_cases h1 : (s.size : Int) = 0
  · rw [if_pos h1, decide_eq_false (by omega), Bool.and_false]
    simp only [tattlerref06_KeyMay.j0, if_true]
  · rw [if_neg h1]
    by_cases h2 : (s.size : Int) > 250
    · have h3 : ¬ (1 ≤ s.size ∧ s.size ≤ 250) := by omega
      rw [decide_eq_true h2, decide_eq_false h3, Bool.and_false]
      simp only [tattlerref06_KeyMay.j0, if_true]
    · have h3 : 1 ≤ s.size ∧ s.size ≤ 250 := by omega
      rw [decide_eq_false h2, decide_eq_true h3, Bool.and_true]
      simp only [tattlerref06_KeyMay.j0, Bool.false_eq_true, if_false]
      have h := refKey_l0 s (by omega) s.size 0 k rfl (by omega) (by omega)
      simpa using h
end Go.Proofs.YthinmioognadpaaDoor.Cmd

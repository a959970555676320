/- Words and digits, without any program's text: what a line made of words parts into (own text). -/
import Derived.Test.YtpfggidfcbgaiaaDoorCmdParA
import Derived.Test.YtpfggidfcbgaiaaDoorCmdSame
namespace Go.Proofs.YtpfggidfcbgaiaaDoor.Cmd
open Go.RowKit Go.Proofs.YtpfggidfcbgaiaaDoorW.PrintWords Go.Proofs.YtpfggidfcbgaiaaDoorW.PrintLast Go.Proofs.YtpfggidfcbgaiaaDoorW.PrintMore Go.Proofs.YtpfggidfcbgaiaaDoor.PCmd Go.Proofs.YtpfggidfcbgaiaaDoor.Split
set_option linter.unusedVariables false
set_option linter.unusedSimpArgs false
theorem toB_data' (l : List UInt8) : (toB l).data.toList = l := by simp [toB]
theorem wordsB_map (s : ByteArray) : wordsB s = (wordsL s.data.toList).map toB := by
  unfold wordsB splitB wordsL
  rw [List.filter_map]
  congr 1
theorem data_app (a b : ByteArray) : (a ++ b).data.toList = a.data.toList ++ b.data.toList := by rw [ByteArray.data_append, Array.toList_append]
theorem size_app (a b : ByteArray) : (a ++ b).size = a.size + b.size := ByteArray.size_append
/-! ### Blanks at an end -/
def EndB (x : List UInt8) : Prop := x = [] ∨ ∃ y, x = y ++ [32]
theorem wordsL_blanks : ∀ n : Nat, wordsL (List.replicate n 32) = []
  | 0 => rfl
  | n + 1 => by rw [List.replicate_succ, wordsL_blank, wordsL_blanks n]
theorem wordsL_end {x : List UInt8} (h : EndB x) (w : List UInt8) (n : Nat) : wordsL (x ++ (w ++ 32 :: List.replicate n 32)) = wordsL x ++ wordsL w := by
  rcases h with rfl | ⟨y, rfl⟩
  · rw [List.nil_append, wordsL_append, wordsL_blanks, List.append_nil]; rfl
  · have e1 : y ++ [32] ++ (w ++ 32 :: List.replicate n 32) = y ++ 32 :: (w ++ 32 :: List.replicate n 32) := by simp
    have e2 : wordsL (y ++ [32]) = wordsL y := by
      have := wordsL_append y []
      rw [this, wordsL_nil, List.append_nil]
    rw [e1, wordsL_append, wordsL_append, wordsL_blanks, List.append_nil, e2]
theorem endB_blanks (x : List UInt8) (n : Nat) : EndB (x ++ 32 :: List.replicate n 32) := by
  refine Or.inr ⟨x ++ List.replicate n 32, ?_⟩
  rw [List.append_assoc]
  congr 1
  have h1 : List.replicate n (32 : UInt8) ++ [32] = List.replicate (n + 1) 32 := by rw [List.replicate_succ']
  rw [h1, List.replicate_succ]
/-! ### What is good -/
theorem key_free {s : ByteArray} (h : keyP s = true) : 32 ∉ s.data.toList ∧ s.data.toList ≠ [] ∧ s.size ≤ 250 := by
  unfold keyP at h
  rw [Bool.and_eq_true, decide_eq_true_eq] at h
  obtain ⟨h1, h2⟩ := h
  refine ⟨fun hm => ?_, fun e => ?_, h2.2⟩
  · have := List.all_eq_true.1 h1 32 hm
    simp [okc] at this
  · have := size_list s
    rw [e] at this
    simp at this
    omega
/-! ### Digits -/
theorem numL_app : ∀ (x y : List UInt8) (n : Nat), numL n (x ++ y) = (numL n x).bind (fun m => numL m y)
  | [], y, n => rfl
  | c :: x, y, n => by
    rw [List.cons_append]
    simp only [numL]
    split
    · exact numL_app x y _
    · rfl
theorem dig_byte (m : Nat) (h : m < 10) : ((48 + m).toUInt8).toNat = 48 + m := by
  have : m = 0 ∨ m = 1 ∨ m = 2 ∨ m = 3 ∨ m = 4 ∨ m = 5 ∨ m = 6 ∨ m = 7 ∨ m = 8 ∨ m = 9 := by omega
  rcases this with rfl | rfl | rfl | rfl | rfl | rfl | rfl | rfl | rfl | rfl <;> rfl
theorem digU_num : ∀ (k n : Nat), n < 10 ^ k → 0 < k → numL 0 (digU k n) = some n
  | 0, n, _, h => by omega
  | k + 1, n, hn, _ => by
    unfold digU
    by_cases h1 : n < 10
    · rw [if_pos h1]
      simp only [numL]
      rw [dig_byte n h1, if_pos (by omega)]
      congr 1
      omega
    · rw [if_neg h1, numL_app]
      have hk0 : 0 < k := by
        rcases Nat.eq_zero_or_pos k with h | h
        · subst h; simp at hn; omega
        · exact h
      have ih := digU_num k (n / 10) (by rw [Nat.pow_succ] at hn; omega) hk0
      rw [ih]
      simp only [Option.bind_some, numL]
      rw [dig_byte (n % 10) (by omega), if_pos (by omega)]
      congr 1
      omega
theorem digU_short : ∀ (m k n : Nat), n < 10 ^ m → 0 < m → (digU k n).length ≤ m
  | 0, _, _, _, h => by omega
  | m + 1, 0, n, _, _ => by simp [digU]
  | m + 1, k + 1, n, hn, _ => by
    unfold digU
    by_cases h1 : n < 10
    · rw [if_pos h1]; simp
    · rw [if_neg h1, List.length_append]
      have hm0 : 0 < m := by
        rcases Nat.eq_zero_or_pos m with h | h
        · subst h; simp at hn; omega
        · exact h
      have ih := digU_short m k (n / 10) (by rw [Nat.pow_succ] at hn; omega) hm0
      simp
      omega
theorem digU_mem : ∀ (k n : Nat) (c : UInt8), c ∈ digU k n → 48 ≤ c.toNat ∧ c.toNat ≤ 57
  | 0, _, c, h => by simp [digU] at h
  | k + 1, n, c, h => by
    unfold digU at h
    split at h
    · rename_i h1
      rw [List.mem_singleton] at h
      subst h
      rw [dig_byte n h1]; omega
    · rcases List.mem_append.1 h with h | h
      · exact digU_mem k _ c h
      · rw [List.mem_singleton] at h
        subst h
        rw [dig_byte (n % 10) (by omega)]; omega
theorem digU_ne : ∀ (k n : Nat), 0 < k → digU k n ≠ []
  | 0, _, h => by omega
  | k + 1, n, _ => by
    unfold digU
    split <;> simp
theorem p10 : (10 : Nat) ^ 10 = 10000000000 := by decide
theorem p11 : (10 : Nat) ^ 11 = 100000000000 := by decide
theorem lt10' {m : Nat} (h : m < 10000000000) : m < 10 ^ 10 := Nat.lt_of_lt_of_le h (Nat.le_of_eq p10.symm)
theorem numP_dig (n : Nat) (h : n < 10000000000) : numP (toB (digU 11 n)) = some n := by
  have h1 := digU_short 10 11 n (lt10' h) (by omega)
  have h2 : (digU 11 n).length ≠ 0 := fun e => digU_ne 11 n (by omega) (List.eq_nil_of_length_eq_zero e)
  unfold numP
  rw [toB_size, if_neg (by omega), toB_data']
  exact digU_num 11 n (lt11 (by omega)) (by omega)
theorem digB_nat (n : Nat) : digB (n : Int) = toB (digU 11 n) := by
  unfold digB
  rw [if_neg (by omega), Int.natAbs_natCast]
theorem digB_neg (n : Nat) (h : 0 < n) : digB (-(n : Int)) = toB (45 :: digU 11 n) := by
  unfold digB
  rw [if_pos (by omega), Int.natAbs_neg, Int.natAbs_natCast]
theorem digB_free (n : Int) : 32 ∉ (digB n).data.toList ∧ (digB n).data.toList ≠ [] := by
  unfold digB
  rw [toB_data']
  split
  · refine ⟨fun h => ?_, by simp⟩
    rcases List.mem_cons.1 h with h | h
    · cases h
    · have := (digU_mem 11 _ _ h).1
      simp at this
  · exact ⟨fun h => by have := (digU_mem 11 _ _ h).1; simp at this, digU_ne 11 _ (by omega)⟩
theorem digB_size (n : Int) : (digB n).size ≤ 12 := by
  unfold digB
  rw [toB_size]
  have := digU_len 11 n.natAbs
  split
  · rw [List.length_cons]; omega
  · omega
theorem amt_dig (n : Nat) (h : n ≤ 4294967295) : amtB (digB (n : Int)) = true ∧ amtV (digB (n : Int)) = n := by
  unfold amtB amtV amtP
  rw [digB_nat, numP_dig n (by omega)]
  simp only
  rw [if_pos h]
  exact ⟨rfl, rfl⟩
theorem neg_nat (n : Nat) : isNeg (toB (digU 11 n)) = false := by
  unfold isNeg
  rw [toB_data']
  cases hd : digU 11 n with
  | nil => exact absurd hd (digU_ne 11 n (by omega))
  | cons c r =>
    have := digU_mem 11 n c (by rw [hd]; exact List.mem_cons_self)
    rw [List.head?_cons]
    rw [beq_eq_false_iff_ne]
    intro e
    have e2 : c = 45 := Option.some.inj e
    rw [e2] at this
    simp at this
theorem mom_dig (n : Int) (h0 : -10000000000 < n) (h1 : n < 10000000000) : momB (digB n) = true ∧ momV (digB n) = n := by
  by_cases hn : 0 ≤ n
  · obtain ⟨m, rfl⟩ := Int.eq_ofNat_of_zero_le hn
    unfold momB momV
    rw [digB_nat, neg_nat, numP_dig m (by omega)]
    exact ⟨rfl, rfl⟩
  · obtain ⟨m, rfl⟩ : ∃ m : Nat, n = -(m : Int) := ⟨n.natAbs, by omega⟩
    unfold momB momV
    rw [digB_neg m (by omega)]
    have e1 : isNeg (toB (45 :: digU 11 m)) = true := by unfold isNeg; rw [toB_data']; rfl
    have e2 : rest1 (toB (45 :: digU 11 m)) = toB (digU 11 m) := by
      refine ext_list ?_
      unfold rest1
      rw [extract_data, toB_data', toB_data', toB_size, List.take_of_length_le (Nat.le_refl _)]
      rfl
    rw [e1, e2, numP_dig m (by omega)]
    exact ⟨rfl, rfl⟩
/-! ### Lines -/
theorem wordsB_cons (x : ByteArray) (y : List UInt8) (h : 32 ∉ x.data.toList) (hn : x.data.toList ≠ []) : (wordsL (x.data.toList ++ 32 :: y)).map toB = x :: (wordsL y).map toB := by
  rw [wordsL_word _ _ h hn, List.map_cons, toB_data]
theorem wordsB_last (x : ByteArray) (h : 32 ∉ x.data.toList) (hn : x.data.toList ≠ []) : (wordsL x.data.toList).map toB = [x] := by
  rw [wordsL_one _ h hn, List.map_cons, List.map_nil, toB_data]
end Go.Proofs.YtpfggidfcbgaiaaDoor.Cmd

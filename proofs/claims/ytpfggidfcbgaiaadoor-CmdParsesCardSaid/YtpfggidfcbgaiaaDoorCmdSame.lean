/- Are two commands the same; a number in digits: what the printed functions compute (own text). -/
import Derived.Test.YtpfggidfcbgaiaaDoorPCmdx6
import Derived.Test.YtpfggidfcbgaiaaDoorPCmdx7
import Derived.Test.YtpfggidfcbgaiaaDoorCmdKeys
namespace Go.Proofs.YtpfggidfcbgaiaaDoor.Cmd
open Go.RowKit Go.Proofs.YtpfggidfcbgaiaaDoorW.PrintWords Go.Proofs.YtpfggidfcbgaiaaDoorW.PrintLast Go.Proofs.YtpfggidfcbgaiaaDoorW.PrintMore Go.Proofs.YtpfggidfcbgaiaaDoor.PCmd Go.Proofs.YtpfggidfcbgaiaaDoor.Split
set_option linter.unusedVariables false
set_option linter.unusedSimpArgs false
theorem str_iff (a b : ByteArray) : a.toList = b.toList ↔ a = b := by
  rw [toList_eq, toList_eq]
  exact ⟨fun h => ext_list h, fun h => by rw [h]⟩
theorem rd_at (l : List ByteArray) (i : Nat) (h : i < l.length) : rdOf ByteArray.empty l (i : Int) = l[i] := by
  unfold rdOf
  rw [Int.toNat_natCast, List.getD_eq_getElem?_getD, List.getElem?_eq_getElem h]; rfl
theorem same_l0 (a b : List ByteArray) (hl : a.length = b.length) (hb : a.length ≤ 9223372036854775807) (x0 x2 x3 : Int) (x4 : ByteArray) (x5 : Bool) (x6 : ByteArray) (y0 y2 y3 : Int) (y4 : ByteArray) (y5 : Bool) (y6 : ByteArray) :
    ∀ (d i k : Nat), a.length - i = d → i ≤ a.length → d < k → (∀ j, j < i → a[j]? = b[j]?) →
    tattlerref07_Same.l0 k (a.length : Int) (i : Int) x0 a x2 x3 x4 x5 x6 y0 b y2 y3 y4 y5 y6 = some (decide (a = b)) := by
  intro d
  induction d with
  | zero =>
    intro i k hd hi hk he
    obtain ⟨k, rfl⟩ : ∃ m, k = m + 1 := ⟨k - 1, by omega⟩
    obtain rfl : i = a.length := by omega
    simp only [tattlerref07_Same.l0]
    have hab : a = b := by
      apply List.ext_getElem? 
      intro j
      by_cases hj : j < a.length
      · exact he j hj
      · rw [List.getElem?_eq_none (by omega), List.getElem?_eq_none (by omega)]
    rw [if_neg (by omega), decide_eq_true hab]
  | succ d ih =>
    intro i k hd hi hk he
    obtain ⟨k, rfl⟩ : ∃ m, k = m + 1 := ⟨k - 1, by omega⟩
    have h1 : i < a.length := by omega
    have h2 : i < b.length := by omega
    have e2 : wrap64 ((i : Int) + 1) = ((i + 1 : Nat) : Int) := by rw [w64 (by omega) (by omega)]; omega
    simp only [tattlerref07_Same.l0]
    rw [if_pos (by omega), if_pos (by omega), if_pos (by omega), if_pos (by omega), rd_at a i h1, rd_at b i h2, e2]
    clear e2
    by_cases h3 : a[i] = b[i]
    · rw [if_pos ((str_iff _ _).2 h3)]
      refine ih (i + 1) k (by omega) (by omega) (by omega) (fun j hj => ?_)
      by_cases e : j = i
      · subst e; rw [List.getElem?_eq_getElem h1, List.getElem?_eq_getElem h2, h3]
      · exact he j (by omega)
    · rw [if_neg (fun h => h3 ((str_iff _ _).1 h)), decide_eq_false (fun h => h3 (by simp only [h]))]
/-- Are two commands the same? -/
def sameP (x0 : Int) (a : List ByteArray) (x2 x3 : Int) (x4 : ByteArray) (x5 : Bool) (x6 : ByteArray) (y0 : Int) (b : List ByteArray) (y2 y3 : Int) (y4 : ByteArray) (y5 : Bool) (y6 : ByteArray) : Bool :=
  decide (x0 = y0 ∧ x2 = y2 ∧ x3 = y3 ∧ x4 = y4 ∧ x5 = y5 ∧ x6 = y6 ∧ a = b)
theorem same_is (x0 : Int) (a : List ByteArray) (x2 x3 : Int) (x4 : ByteArray) (x5 : Bool) (x6 : ByteArray) (y0 : Int) (b : List ByteArray) (y2 y3 : Int) (y4 : ByteArray) (y5 : Bool) (y6 : ByteArray) (hb : a.length ≤ 9223372036854775807) :
    tattlerref07_Same.f (a.length + 2) x0 a x2 x3 x4 x5 x6 y0 b y2 y3 y4 y5 y6 = some (sameP x0 a x2 x3 x4 x5 x6 y0 b y2 y3 y4 y5 y6) := by
  have hj : ∀ v, tattlerref07_Same.j0 (a.length + 2) v x0 a x2 x3 x4 x5 x6 y0 b y2 y3 y4 y5 y6 = if v = true then some false else tattlerref07_Same.l0 (a.length + 1) (a.length : Int) 0 x0 a x2 x3 x4 x5 x6 y0 b y2 y3 y4 y5 y6 := fun v => by simp only [tattlerref07_Same.j0]
  unfold tattlerref07_Same.f sameP
  rw [hj, hj]
  by_cases h0 : x0 = y0
  · rw [if_pos h0]
    by_cases h2 : x2 = y2
    · rw [if_pos h2]
      by_cases h3 : x3 = y3
      · rw [if_pos h3]
        by_cases h4 : x4 = y4
        · rw [if_pos ((str_iff _ _).2 h4)]
          by_cases h5 : x5 = y5
          · rw [if_neg (by simp [h5])]
            by_cases h6 : x6 = y6
            · rw [if_pos ((str_iff _ _).2 h6)]
              by_cases h7 : a.length = b.length
              · have e : ((a.length : Int) != (b.length : Int)) = false := by simp [h7]
                rw [e, if_neg (by simp)]
                have h := same_l0 a b h7 hb x0 x2 x3 x4 x5 x6 y0 y2 y3 y4 y5 y6 a.length 0 (a.length + 1) rfl (by omega) (by omega) (by intro j hj; omega)
                refine Eq.trans h ?_
                congr 1
                rw [decide_eq_decide]
                exact ⟨fun h => ⟨h0, h2, h3, h4, h5, h6, h⟩, fun h => h.2.2.2.2.2.2⟩
              · have e : ((a.length : Int) != (b.length : Int)) = true := by simp; omega
                rw [e, if_pos rfl, decide_eq_false (fun h => h7 (by rw [h.2.2.2.2.2.2]))]
            · rw [if_neg (fun h => h6 ((str_iff _ _).1 h)), if_pos rfl, decide_eq_false (fun h => h6 h.2.2.2.2.2.1)]
          · rw [if_pos (by simpa using h5), if_pos rfl, decide_eq_false (fun h => h5 h.2.2.2.2.1)]
        · rw [if_neg (fun h => h4 ((str_iff _ _).1 h)), if_pos rfl, decide_eq_false (fun h => h4 h.2.2.2.1)]
      · rw [if_neg h3, if_pos rfl, decide_eq_false (fun h => h3 h.2.2.1)]
    · rw [if_neg h2, if_pos rfl, decide_eq_false (fun h => h2 h.2.1)]
  · rw [if_neg h0, if_pos rfl, decide_eq_false (fun h => h0 h.1)]
/-! ### Digits -/
def digU : Nat → Nat → List UInt8
  | 0, _ => []
  | k + 1, n => if n < 10 then [(48 + n).toUInt8] else digU k (n / 10) ++ [(48 + n % 10).toUInt8]
/-- A number in digits. -/
def digB (n : Int) : ByteArray := toB (if n < 0 then 45 :: digU 11 n.natAbs else digU 11 n.natAbs)
theorem one_num (m : Nat) (h : m < 10) : strOfNums [wrap64 (48 + (m : Int)) % 256] = toB [(48 + m).toUInt8] := by
  rw [w64 (by omega) (by omega)]
  have : m = 0 ∨ m = 1 ∨ m = 2 ∨ m = 3 ∨ m = 4 ∨ m = 5 ∨ m = 6 ∨ m = 7 ∨ m = 8 ∨ m = 9 := by omega
  rcases this with rfl | rfl | rfl | rfl | rfl | rfl | rfl | rfl | rfl | rfl <;> rfl
theorem toB_app (a b : List UInt8) : toB a ++ toB b = toB (a ++ b) := by
  refine ext_list ?_
  rw [ByteArray.data_append, Array.toList_append]
  simp [toB]
theorem toB_size (a : List UInt8) : (toB a).size = a.length := by simp [toB, ByteArray.size]
theorem digU_len : ∀ k n, (digU k n).length ≤ k
  | 0, _ => by simp [digU]
  | k + 1, n => by
    unfold digU
    split
    · simp
    · rw [List.length_append]; have := digU_len k (n / 10); simp; omega
theorem digits_nat : ∀ (k n j : Nat), n < 10 ^ k → k ≤ 19 → n ≤ 9223372036854775807 → 0 < k → k ≤ j → tattlerlaw07_digits.f j (n : Int) = some (toB (digU k n))
  | 0, _, _, _, _, _, h, _ => by omega
  | k + 1, n, j, hn, hk, hb, _, hj => by
    obtain ⟨j, rfl⟩ : ∃ m, j = m + 1 := ⟨j - 1, by omega⟩
    simp only [tattlerlaw07_digits.f]
    rw [if_neg (by omega)]
    unfold digU
    by_cases h1 : n < 10
    · rw [if_pos (by omega), if_pos h1]
      exact congrArg some (one_num n h1)
    · rw [if_neg (by omega), if_neg h1]
      have e1 : Int.tdiv (n : Int) 10 = ((n / 10 : Nat) : Int) := rfl
      have e2 : Int.tmod (n : Int) 10 = ((n % 10 : Nat) : Int) := rfl
      have hk0 : 0 < k := by
        rcases Nat.eq_zero_or_pos k with h | h
        · subst h; simp at hn; omega
        · exact h
      have hn10 : n / 10 < 10 ^ k := by
        rw [Nat.pow_succ] at hn
        omega
      have ih := digits_nat k (n / 10) j hn10 (by omega) (by omega) hk0 (by omega)
      clear hn hn10
      rw [e1, e2, w64 (by omega) (by omega), ih, Option.bind_some, Option.bind_some, one_num _ (by omega)]
      have hl := digU_len k (n / 10)
      rw [toB_size, toB_size, if_pos (by simp; omega), toB_app]
theorem lt11 {m : Nat} (h : m < 100000000000) : m < 10 ^ 11 := Nat.lt_of_lt_of_le h (by decide)
theorem digits_is (n : Int) (h0 : -10000000000 < n) (h1 : n < 10000000000) : tattlerlaw07_digits.f 13 n = some (digB n) := by
  suffices key : ∀ j, 12 ≤ j → tattlerlaw07_digits.f (j + 1) n = some (digB n) from key 12 (by omega)
  intro j hj
  unfold digB
  by_cases h : n < 0
  · have hd := digits_nat 11 n.natAbs j (lt11 (by omega)) (by omega) (by omega) (by omega) (by omega)
    have e : wrap64 (-n) = (n.natAbs : Int) := by rw [w64 (by omega) (by omega)]; omega
    have hl := digU_len 11 n.natAbs
    simp only [tattlerlaw07_digits.f]
    rw [if_pos h, if_pos h, e]
    clear e
    rw [hd, Option.bind_some, toB_size, if_pos (by omega)]
    exact congrArg some (toB_app [45] _)
  · rw [if_neg h]
    have hd := digits_nat 11 n.natAbs (j + 1) (lt11 (by omega)) (by omega) (by omega) (by omega) (by omega)
    have e : (n.natAbs : Int) = n := by omega
    rw [e] at hd
    exact hd
end Go.Proofs.YtpfggidfcbgaiaaDoor.Cmd

/- Numbers that are read back: the plain law (own text). -/
import Derived.Test.YtbgoedhpndflpaaDoorSayP0
import Derived.Test.YtbgoedhpndflpaaDoorSayQ3
namespace Go.Proofs.YtbgoedhpndflpaaDoor.Say
open Go.RowKit Go.Proofs.YtbgoedhpndflpaaDoorW.PrintWords Go.Proofs.YtbgoedhpndflpaaDoorW.PrintLast Go.Proofs.YtbgoedhpndflpaaDoorW.PrintMore Go.Proofs.YtbgoedhpndflpaaDoor.PSay
set_option linter.unusedVariables false
set_option linter.unusedSimpArgs false
theorem size_list (s : ByteArray) : s.data.toList.length = s.size := by rw [Array.length_toList]; rfl
theorem drop_bt (s : ByteArray) (i : Nat) (h : i < s.size) : ∃ c : UInt8, s.data.toList.drop i = c :: s.data.toList.drop (i + 1) ∧ bt s (i : Int) = (c.toNat : Int) := by
  have h1 : i < s.data.toList.length := by rw [size_list]; exact h
  refine ⟨s.data.toList[i], List.drop_eq_getElem_cons h1, ?_⟩
  have := bt_at s (i : Int) (by rw [Int.toNat_natCast]; exact h)
  rw [← this]
  rfl
theorem drop_end (s : ByteArray) : s.data.toList.drop s.size = [] := List.drop_of_length_le (by rw [size_list]; exact Nat.le_refl _)
theorem bt_of {s : ByteArray} {i : Nat} {c : UInt8} {r : List UInt8} (h : s.data.toList.drop i = c :: r) : bt s (i : Int) = (c.toNat : Int) ∧ i < s.size := by
  have hl : i < s.size := by
    rw [← size_list]
    rcases Nat.lt_or_ge i s.data.toList.length with h1 | h1
    · exact h1
    · rw [List.drop_of_length_le h1] at h; cases h
  obtain ⟨d, hd, hb⟩ := drop_bt s i hl
  rw [h] at hd
  injection hd with hd _
  rw [hb, hd]
  exact ⟨rfl, hl⟩
/-! ### Numbers -/
def valL : List UInt8 → Nat → Nat
  | [], a => a
  | c :: r, a => valL r (10 * a + (c.toNat - 48))
theorem valL_app : ∀ (x y : List UInt8) (a : Nat), valL (x ++ y) a = valL y (valL x a)
  | [], y, a => rfl
  | c :: x, y, a => by
    show valL (x ++ y) _ = valL y (valL x _)
    exact valL_app x y _
theorem dig_toNat (d : Nat) (h : d < 10) : (UInt8.ofNat (48 + d)).toNat = 48 + d := by
  have : d = 0 ∨ d = 1 ∨ d = 2 ∨ d = 3 ∨ d = 4 ∨ d = 5 ∨ d = 6 ∨ d = 7 ∨ d = 8 ∨ d = 9 := by omega
  rcases this with rfl | rfl | rfl | rfl | rfl | rfl | rfl | rfl | rfl | rfl <;> rfl
theorem dec_val : ∀ n, valL (Lib.decDigits n) 0 = n := by
  intro n
  induction n using Nat.strongRecOn with
  | _ n ih =>
    rw [Lib.decDigits]
    by_cases h : n < 10
    · rw [dif_pos h]
      show 10 * 0 + ((UInt8.ofNat (48 + n)).toNat - 48) = n
      rw [dig_toNat n h]; omega
    · rw [dif_neg h, valL_app, ih (n / 10) (by omega)]
      show 10 * (n / 10) + ((UInt8.ofNat (48 + n % 10)).toNat - 48) = n
      rw [dig_toNat (n % 10) (by omega)]; omega
theorem dec_mem : ∀ n (c : UInt8), c ∈ Lib.decDigits n → 48 ≤ c.toNat ∧ c.toNat ≤ 57 := by
  intro n
  induction n using Nat.strongRecOn with
  | _ n ih =>
    intro c hc
    rw [Lib.decDigits] at hc
    by_cases h : n < 10
    · rw [dif_pos h, List.mem_singleton] at hc
      subst hc
      rw [dig_toNat n h]; omega
    · rw [dif_neg h] at hc
      rcases List.mem_append.1 hc with hc | hc
      · exact ih (n / 10) (by omega) c hc
      · rw [List.mem_singleton] at hc
        subst hc
        rw [dig_toNat (n % 10) (by omega)]; omega
theorem dec_head : ∀ n, n ≠ 0 → ∃ c r, Lib.decDigits n = c :: r ∧ c.toNat ≠ 48 := by
  intro n
  induction n using Nat.strongRecOn with
  | _ n ih =>
    intro h0
    rw [Lib.decDigits]
    by_cases h : n < 10
    · rw [dif_pos h]
      exact ⟨_, [], rfl, by rw [dig_toNat n h]; omega⟩
    · rw [dif_neg h]
      obtain ⟨c, r, e, hc⟩ := ih (n / 10) (by omega) (by omega)
      rw [e]
      exact ⟨c, _, rfl, hc⟩
theorem pow10 (i : Nat) (h : i ≤ 10) : 10 ^ i ≤ 10000000000 := Nat.le_trans (Nat.pow_le_pow_right (by omega) h) (by decide)
def numEnd (s : ByteArray) (most v : Int) : Option (Int × Bool) := if s.toList = ([] : List UInt8) then some (v, false) else (if v ≤ most then (if 0 < (s.size : Int) then (if bt s 0 = 48 then some (v, ((s.size : Int) == 1)) else some (v, true)) else none) else some (v, false))
theorem number_l0 (s : ByteArray) (most v : Int) (hs : s.size ≤ 10) (hd : ∀ c, c ∈ s.data.toList → 48 ≤ c.toNat ∧ c.toNat ≤ 57) : ∀ d i k a : Nat, s.size - i = d → i ≤ s.size → d < k → a < 10 ^ i → (valL (s.data.toList.drop i) a : Int) = v →
    say_number.l0 k s most (a : Int) (s.size : Int) (i : Int) = numEnd s most v := by
  intro d
  induction d with
  | zero =>
    intro i k a hdd hi hk ha hv
    obtain ⟨k, rfl⟩ : ∃ m, k = m + 1 := ⟨k - 1, by omega⟩
    obtain rfl : i = s.size := by omega
    rw [drop_end] at hv
    have hv : (a : Int) = v := hv
    rw [hv, say_number.l0, if_neg (Int.lt_irrefl _)]
    rfl
  | succ d ih =>
    intro i k a hdd hi hk ha hv
    obtain ⟨k, rfl⟩ : ∃ m, k = m + 1 := ⟨k - 1, by omega⟩
    obtain ⟨c, hc, hb⟩ := drop_bt s i (by omega)
    have hmem : c ∈ s.data.toList.drop i := by rw [hc]; exact List.mem_cons_self
    obtain ⟨c0, c1⟩ := hd c (List.mem_of_mem_drop hmem)
    clear hmem
    have ha' : a < 10000000000 := Nat.lt_of_lt_of_le ha (pow10 i (by omega))
    have g1 : (i : Int) < (s.size : Int) := by clear hv; omega
    have g2 : (0 : Int) ≤ (i : Int) := by clear hv; omega
    have g3 : ¬ (c.toNat : Int) < 48 := by clear hv; omega
    have g4 : ¬ (c.toNat : Int) > 57 := by clear hv; omega
    have g5 : ¬ (i : Int) > 10 := by clear hv; omega
    have e2 : wrap64 ((i : Int) + 1) = ((i + 1 : Nat) : Int) := by rw [w64 (by omega) (by omega)]; omega
    have e3 : IntKind.u64.wrap (IntKind.u64.wrap (10 * (a : Int)) + (((c.toNat : Int) - 48) % 256)) = ((10 * a + (c.toNat - 48) : Nat) : Int) := by
      have e4 : ((c.toNat : Int) - 48) % 256 = ((c.toNat - 48 : Nat) : Int) := by omega
      rw [e4, IntKind.wrap_u64, IntKind.wrap_u64]
      omega
    rw [hc] at hv
    simp only [say_number.l0]
    rw [if_pos g1, if_pos g2, if_pos g1, hb, if_neg g3, if_neg g4, if_neg g5, e2, e3]
    refine ih (i + 1) k _ (by clear ha hv ih hb hc e2 e3; omega) (by clear ha hv ih hb hc e2 e3; omega) (by clear ha hv ih hb hc e2 e3; omega) ?_ hv
    clear hv ih hb hc e2 e3 ha' hd hdd hk hi hs g1 g2
    rw [Nat.pow_succ]
    generalize 10 ^ i = P at ha
    omega
theorem number_law (n : Nat) (most : Int) (k : Nat) (hn : (n : Int) ≤ most) (hm : most ≤ 4294967295) (hk : 12 < k) : say_number.f k (decB n) most = some ((n : Int), true) := by
  have hl := dec_len 9 n (by have : (10 : Nat) ^ (9 + 1) = 10000000000 := by decide
                             omega)
  have hs : (decB n).size = (Lib.decDigits n).length := List.size_toArray
  unfold say_number.f
  have h := number_l0 (decB n) most n (by omega) (dec_mem n) (decB n).size 0 k 0 rfl (Nat.zero_le _) (by omega) (by decide) (by rw [List.drop_zero]; exact congrArg _ (dec_val n))
  have h : say_number.l0 k (decB n) most 0 ((decB n).size : Int) 0 = _ := h
  rw [h]
  unfold numEnd
  have ht : (decB n).toList = Lib.decDigits n := Lib.toList_data _
  rw [ht]
  by_cases h0 : n = 0
  · subst h0
    have e : Lib.decDigits 0 = [48] := by rw [Lib.decDigits, dif_pos (by omega)]; rfl
    have e2 : decB 0 = ⟨#[48]⟩ := by unfold decB; rw [e]
    rw [e, e2, if_neg (by decide), if_pos hn, if_pos (by decide), if_pos (by decide)]
    rfl
  · obtain ⟨c, r, e, hc⟩ := dec_head n h0
    have hb := (bt_of (s := decB n) (i := 0) (c := c) (r := r) e).1
    have hb : bt (decB n) 0 = (c.toNat : Int) := hb
    have hp : 0 < (decB n).size := by rw [hs, e]; show 0 < r.length + 1; omega
    rw [e, if_neg (by exact List.cons_ne_nil _ _), if_pos hn, if_pos (by omega), hb, if_neg (by omega)]
end Go.Proofs.YtbgoedhpndflpaaDoor.Say

/- What is said: what the reference's printed functions compute (own text). -/
import Derived.Test.YtbgoedhpndflpaaDoorSayP0
import Derived.Test.YtbgoedhpndflpaaDoorSayQ6
namespace Go.Proofs.YtbgoedhpndflpaaDoor.Say
open Go.RowKit Go.Proofs.YtbgoedhpndflpaaDoorW.PrintWords Go.Proofs.YtbgoedhpndflpaaDoorW.PrintLast Go.Proofs.YtbgoedhpndflpaaDoorW.PrintMore Go.Proofs.YtbgoedhpndflpaaDoor.PSay
set_option linter.unusedVariables false
set_option linter.unusedSimpArgs false
theorem dec_l0 : ∀ (j x k : Nat) (s : ByteArray), x < 10 ^ j → x < 18446744073709551616 → j < k → s.size + j ≤ 1000 →
    tattlerref09_Decimal.l0 k (x : Int) s = some (if x = 0 then s else decB x ++ s)
  | j, x, 0, s, _, _, hk, _ => by omega
  | j, x, k + 1, s, hx, h64, hk, hs => by
    simp only [tattlerref09_Decimal.l0]
    by_cases h0 : x = 0
    · rw [if_neg (by omega), if_pos h0]
    · obtain ⟨j, rfl⟩ : ∃ m, j = m + 1 := ⟨j - 1, by
        rcases j with _ | j
        · rw [Nat.pow_zero] at hx; omega
        · omega⟩
      rw [if_pos (by omega), if_neg h0, Option.bind_some, dig_str x h64]
      have e1 : IntKind.u64.wrap (Int.tdiv (x : Int) 10) = ((x / 10 : Nat) : Int) := by
        rw [show Int.tdiv (x : Int) 10 = ((x / 10 : Nat) : Int) from rfl, IntKind.wrap_u64]
        omega
      have hd : (digB (x % 10)).size = 1 := rfl
      rw [if_pos (by rw [hd]; omega), e1, dec_l0 j (x / 10) k (digB (x % 10) ++ s) (by rw [Nat.pow_succ] at hx; omega) (by omega) (by omega) (by rw [ByteArray.size_append, hd]; omega)]
      by_cases h9 : x < 10
      · rw [if_pos (by omega), decB_small x h9]
      · rw [if_neg (by omega), decB_big x h9, app_assoc]
theorem decimal_is (n k : Nat) (hn : n < 18446744073709551616) (hk : 20 < k) : tattlerref09_Decimal.f k (n : Int) = some (decB n) := by
  unfold tattlerref09_Decimal.f
  have e1 : IntKind.u64.wrap (Int.tdiv (n : Int) 10) = ((n / 10 : Nat) : Int) := by
    rw [show Int.tdiv (n : Int) 10 = ((n / 10 : Nat) : Int) from rfl, IntKind.wrap_u64]
    omega
  rw [dig_str n hn, e1, dec_l0 20 (n / 10) k _ (Nat.lt_of_lt_of_le (show n / 10 < 18446744073709551616 by omega) p20) (by omega) hk (by show 1 + 20 ≤ 1000; omega)]
  by_cases h9 : n < 10
  · rw [if_pos (by omega), decB_small n h9]
  · rw [if_neg (by omega), decB_big n h9]
theorem item_is (x : S30) (k : Nat) (h : SzI x) (hk : 20 < k) : tattlerref09_Item.f k x.f0 x.f1.f0 x.f1.f1 x.f1.f2 x.f2 x.f3 x.f4 x.f5 = some (itemB x) := by
  have h1 := decB_size _ (fl_lt x)
  have h2 := decB_size x.f5.size (by have := h.2; omega)
  have h3 := h.1
  have h4 := h.2
  have e1 : IntKind.u64.wrap ((x.f5.size : Nat) : Int) = ((x.f5.size : Nat) : Int) := by rw [IntKind.wrap_u64]; omega
  unfold tattlerref09_Item.f
  rw [fl_eq, e1, decimal_is (flN x) k (fl_lt x) hk, decimal_is x.f5.size k (by omega) hk]
  simp only [Option.bind_some]
  have s6 : (⟨#[86, 65, 76, 85, 69, 32]⟩ : ByteArray).size = 6 := rfl
  have s1 : (⟨#[32]⟩ : ByteArray).size = 1 := rfl
  have s2 : (⟨#[13, 10]⟩ : ByteArray).size = 2 := rfl
  simp only [ByteArray.size_append, s6, s1, s2]
  repeat rw [if_pos (by omega)]
  rfl
theorem ref_items_l0 (l : List S30) (hl : l.length ≤ 1000) (hs : ∀ x, x ∈ l → SzI x) : ∀ d i k, l.length - i = d → i ≤ l.length → 20 + d < k →
    tattlerref09_Items.l0 k l ⟨(itemsL (l.take i)).toArray⟩ (l.length : Int) (i : Int) = some (itemsB l) := by
  intro d
  induction d with
  | zero =>
    intro i k hd hi hk
    obtain ⟨k, rfl⟩ : ∃ m, k = m + 1 := ⟨k - 1, by omega⟩
    obtain rfl : i = l.length := by omega
    simp only [tattlerref09_Items.l0]
    have h1 := itemsL_len l hs
    rw [if_neg (by omega), List.take_length, if_pos (by show (itemsL l).toArray.size + 5 ≤ _; rw [List.size_toArray]; omega)]
    rfl
  | succ d ih =>
    intro i k hd hi hk
    obtain ⟨k, rfl⟩ : ∃ m, k = m + 1 := ⟨k - 1, by omega⟩
    have h1 : i < l.length := by omega
    have e2 : wrap64 ((i : Int) + 1) = ((i + 1 : Nat) : Int) := by rw [w64 (by omega) (by omega)]; omega
    have hx := hs l[i] (List.getElem_mem h1)
    have h2 := itemsL_len (l.take i) (fun x hx => hs x (List.mem_of_mem_take hx))
    have h3 := item_size _ hx
    rw [List.length_take] at h2
    simp only [tattlerref09_Items.l0]
    rw [if_pos (by omega), if_pos (by omega), if_pos (by omega), rd_at30 l i h1, item_is l[i] k hx (by omega), Option.bind_some, if_pos (by show (itemsL (l.take i)).toArray.size + _ ≤ _; rw [List.size_toArray]; omega), e2]
    have e4 : (⟨(itemsL (l.take i)).toArray⟩ : ByteArray) ++ itemB l[i] = ⟨(itemsL (l.take (i + 1))).toArray⟩ := ext_list (by rw [data_app, itemsL_snoc l i h1])
    rw [e4]
    exact ih (i + 1) k (by omega) (by omega) (by omega)
theorem ref_items_is (l : List S30) (k : Nat) (hl : l.length ≤ 1000) (hs : ∀ x, x ∈ l → SzI x) (hk : 1020 < k) : tattlerref09_Items.f k l = some (itemsB l) :=
  ref_items_l0 l hl hs l.length 0 k rfl (Nat.zero_le _) (by omega)
theorem ref_stats_l0 (l : List S42) (hl : l.length ≤ 1000) (hs : ∀ x, x ∈ l → SzS x) : ∀ d i k, l.length - i = d → i ≤ l.length → 20 + d < k →
    tattlerref09_Stats.l0 k l ⟨(statsL (l.take i)).toArray⟩ (l.length : Int) (i : Int) = some (statsB l) := by
  intro d
  induction d with
  | zero =>
    intro i k hd hi hk
    obtain ⟨k, rfl⟩ : ∃ m, k = m + 1 := ⟨k - 1, by omega⟩
    obtain rfl : i = l.length := by omega
    simp only [tattlerref09_Stats.l0]
    have h1 := statsL_len l hs
    rw [if_neg (by omega), List.take_length, if_pos (by show (statsL l).toArray.size + 5 ≤ _; rw [List.size_toArray]; omega)]
    rfl
  | succ d ih =>
    intro i k hd hi hk
    obtain ⟨k, rfl⟩ : ∃ m, k = m + 1 := ⟨k - 1, by omega⟩
    have h1 : i < l.length := by omega
    have e2 : wrap64 ((i : Int) + 1) = ((i + 1 : Nat) : Int) := by rw [w64 (by omega) (by omega)]; omega
    obtain ⟨x1, x2, x3⟩ := hs l[i] (List.getElem_mem h1)
    have h2 := statsL_len (l.take i) (fun x hx => hs x (List.mem_of_mem_take hx))
    have h3 := decB_size l[i].f1.toNat (by omega)
    rw [List.length_take] at h2
    have e5 : l[i].f1 = ((l[i].f1.toNat : Nat) : Int) := by omega
    have e6 : tattlerref09_Decimal.f k l[i].f1 = some (decB l[i].f1.toNat) := by
      rw [e5]
      exact decimal_is l[i].f1.toNat k (by omega) (by omega)
    have s5 : (⟨#[83, 84, 65, 84, 32]⟩ : ByteArray).size = 5 := rfl
    have s1 : (⟨#[32]⟩ : ByteArray).size = 1 := rfl
    have s2 : (⟨#[13, 10]⟩ : ByteArray).size = 2 := rfl
    have s0 : (⟨(statsL (l.take i)).toArray⟩ : ByteArray).size = (statsL (l.take i)).length := List.size_toArray
    simp only [tattlerref09_Stats.l0]
    rw [if_pos (by omega), if_pos (by omega), if_pos (by omega), rd_at42 l i h1, e6, e2]
    simp only [Option.bind_some, ByteArray.size_append, s5, s1, s2, s0]
    repeat rw [if_pos (by omega)]
    have e4 : (⟨(statsL (l.take i)).toArray⟩ : ByteArray) ++ stB l[i] = ⟨(statsL (l.take (i + 1))).toArray⟩ := ext_list (by rw [data_app, statsL_snoc l i h1])
    show tattlerref09_Stats.l0 k l ((⟨(statsL (l.take i)).toArray⟩ : ByteArray) ++ stB l[i]) _ _ = _
    rw [e4]
    exact ih (i + 1) k (by omega) (by omega) (by omega)
theorem ref_stats_is (l : List S42) (k : Nat) (hl : l.length ≤ 1000) (hs : ∀ x, x ∈ l → SzS x) (hk : 1020 < k) : tattlerref09_Stats.f k l = some (statsB l) :=
  ref_stats_l0 l hl hs l.length 0 k rfl (Nat.zero_le _) (by omega)
end Go.Proofs.YtbgoedhpndflpaaDoor.Say

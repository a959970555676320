/- How texts and records stand to each other: the plain laws (own text). -/
import Derived.Test.YtlohnhjfdmldnaaRecCmp
namespace Go.Proofs.Ytlohnhjfdmldnaa.Rec
open Go.Proofs.Ytlohnhjfdmldnaa.Hlc Go.Lib
set_option linter.unusedVariables false
set_option linter.unusedSimpArgs false
/-- Byte k of a text. -/
def bt (s : ByteArray) (k : Nat) : Nat := if h : k < s.size then (s[k]'h).toNat else 0
theorem bt_at (s : ByteArray) (k : Nat) (h : k < s.size) : (s[k]'h).toNat = bt s k := by unfold bt; rw [dif_pos h]
theorem bt_lt (s : ByteArray) (k : Nat) : bt s k < 256 := by
  unfold bt
  split
  · exact UInt8.toNat_lt _
  · decide
theorem bt_list (s : ByteArray) (k : Nat) (h : k < s.data.toList.length) : (s.data.toList[k]).toNat = bt s k := by
  have h' : k < s.size := by simpa using h
  rw [← bt_at s k h', Array.getElem_toList]
  rfl
theorem cmpL_drop (l m : List UInt8) : ∀ k, k ≤ l.length → k ≤ m.length → (∀ i (h1 : i < l.length) (h2 : i < m.length), i < k → l[i].toNat = m[i].toNat) → compareBytes l m = compareBytes (l.drop k) (m.drop k)
  | 0, _, _, _ => rfl
  | k + 1, h1, h2, h => by
    rw [cmpL_drop l m k (by omega) (by omega) (fun i a b c => h i a b (by omega)), List.drop_eq_getElem_cons (show k < l.length by omega), List.drop_eq_getElem_cons (show k < m.length by omega)]
    have e : l[k] = m[k] := UInt8.toNat_inj.1 (h k (by omega) (by omega) (by omega))
    rw [e]
    show (if m[k] < m[k] then _ else if m[k] < m[k] then _ else _) = _
    rw [if_neg (UInt8.lt_irrefl _), if_neg (UInt8.lt_irrefl _)]
theorem cmpB_diff (a b : ByteArray) (k : Nat) (ha : k < a.size) (hb : k < b.size) (h : ∀ i, i < k → bt a i = bt b i) (hne : bt a k ≠ bt b k) : cmpB a b = if bt a k < bt b k then -1 else 1 := by
  have la : k < a.data.toList.length := by simpa using ha
  have lb : k < b.data.toList.length := by simpa using hb
  unfold cmpB
  rw [cmpL_drop _ _ k (by omega) (by omega) (fun i h1 h2 hi => by rw [bt_list, bt_list]; exact h i hi), List.drop_eq_getElem_cons la, List.drop_eq_getElem_cons lb]
  show (if a.data.toList[k] < b.data.toList[k] then (-1 : Int) else if b.data.toList[k] < a.data.toList[k] then 1 else _) = _
  simp only [UInt8.lt_iff_toNat_lt, bt_list a k la, bt_list b k lb]
  by_cases hl : bt a k < bt b k
  · rw [if_pos hl, if_pos hl]
  · rw [if_neg hl, if_neg hl, if_pos (by omega)]
theorem cmpB_end (a b : ByteArray) (h : ∀ i, i < a.size → i < b.size → bt a i = bt b i) : cmpB a b = cmpI a.size b.size := by
  have za : a.data.toList.length = a.size := by simp
  have zb : b.data.toList.length = b.size := by simp
  unfold cmpB
  obtain ⟨k, hk⟩ : ∃ k, k = min a.size b.size := ⟨_, rfl⟩
  rw [cmpL_drop _ _ k (by omega) (by omega) (fun i h1 h2 hi => by rw [bt_list, bt_list]; exact h i (by omega) (by omega))]
  rcases Nat.lt_trichotomy a.size b.size with e | e | e
  · rw [cmpI_lt (by omega), (List.drop_eq_nil_of_le (by omega) : List.drop k a.data.toList = []), List.drop_eq_getElem_cons (show k < b.data.toList.length by omega)]
    rfl
  · rw [e, cmpI_eq, (List.drop_eq_nil_of_le (by omega) : List.drop k a.data.toList = []), (List.drop_eq_nil_of_le (by omega) : List.drop k b.data.toList = [])]
    rfl
  · rw [cmpI_gt (by omega), (List.drop_eq_nil_of_le (by omega) : List.drop k b.data.toList = []), List.drop_eq_getElem_cons (show k < a.data.toList.length by omega)]
    rfl
theorem cmpL_neg : ∀ l m : List UInt8, compareBytes m l = - compareBytes l m
  | [], [] => rfl
  | [], _ :: _ => rfl
  | _ :: _, [] => rfl
  | a :: l, b :: m => by
    unfold compareBytes
    simp only [UInt8.lt_iff_toNat_lt]
    rcases Nat.lt_trichotomy a.toNat b.toNat with h | h | h
    · rw [if_neg (by omega), if_pos h, if_pos h]; rfl
    · rw [if_neg (by omega), if_neg (by omega), if_neg (by omega), if_neg (by omega)]; exact cmpL_neg l m
    · rw [if_pos h, if_neg (by omega), if_pos h]
theorem cmpL_zero : ∀ l m : List UInt8, compareBytes l m = 0 → l = m
  | [], [], _ => rfl
  | [], _ :: _, h => by simp [compareBytes] at h
  | _ :: _, [], h => by simp [compareBytes] at h
  | a :: l, b :: m, h => by
    unfold compareBytes at h
    split at h
    · omega
    · split at h
      · omega
      · rename_i h1 h2
        have e : a = b := UInt8.toNat_inj.1 (by rw [UInt8.lt_iff_toNat_lt] at h1 h2; omega)
        rw [e, cmpL_zero l m h]
theorem cmpL_self : ∀ l : List UInt8, compareBytes l l = 0
  | [] => rfl
  | a :: l => by
    unfold compareBytes
    rw [if_neg (UInt8.lt_irrefl _), if_neg (UInt8.lt_irrefl _)]
    exact cmpL_self l
theorem cmpL_three : ∀ l m : List UInt8, compareBytes l m = -1 ∨ compareBytes l m = 0 ∨ compareBytes l m = 1
  | [], [] => Or.inr (Or.inl rfl)
  | [], _ :: _ => Or.inl rfl
  | _ :: _, [] => Or.inr (Or.inr rfl)
  | a :: l, b :: m => by
    unfold compareBytes
    split
    · exact Or.inl rfl
    · split
      · exact Or.inr (Or.inr rfl)
      · exact cmpL_three l m
theorem cmpL_trans : ∀ l m n : List UInt8, compareBytes l m = -1 → compareBytes m n = -1 → compareBytes l n = -1
  | [], [], _, h, _ => by simp [compareBytes] at h
  | _ :: _, [], _, h, _ => by simp [compareBytes] at h
  | [], b :: m, [], _, h => by simp [compareBytes] at h
  | [], b :: m, _ :: _, _, _ => rfl
  | a :: l, b :: m, [], _, h => by simp [compareBytes] at h
  | a :: l, b :: m, c :: n, h, g => by
    unfold compareBytes at h g ⊢
    simp only [UInt8.lt_iff_toNat_lt] at h g ⊢
    by_cases h1 : a.toNat < b.toNat
    · by_cases g1 : b.toNat < c.toNat
      · rw [if_pos (by omega)]
      · rw [if_neg g1] at g
        by_cases g2 : c.toNat < b.toNat
        · rw [if_pos g2] at g; omega
        · rw [if_pos (by omega)]
    · rw [if_neg h1] at h
      by_cases h2 : b.toNat < a.toNat
      · rw [if_pos h2] at h; omega
      · rw [if_neg h2] at h
        by_cases g1 : b.toNat < c.toNat
        · rw [if_pos (by omega)]
        · rw [if_neg g1] at g
          by_cases g2 : c.toNat < b.toNat
          · rw [if_pos g2] at g; omega
          · rw [if_neg g2] at g
            rw [if_neg (by omega), if_neg (by omega)]
            exact cmpL_trans l m n h g
theorem cmpB_neg (a b : ByteArray) : cmpB b a = - cmpB a b := cmpL_neg _ _
theorem cmpB_zero {a b : ByteArray} : cmpB a b = 0 ↔ a = b := by
  constructor
  · intro h
    exact ByteArray.ext (Array.toList_inj.1 (cmpL_zero _ _ h))
  · rintro rfl
    exact cmpL_self _
theorem cmpB_three (a b : ByteArray) : cmpB a b = -1 ∨ cmpB a b = 0 ∨ cmpB a b = 1 := cmpL_three _ _
theorem cmpB_trans {a b c : ByteArray} (h : cmpB a b = -1) (g : cmpB b c = -1) : cmpB a c = -1 := cmpL_trans _ _ _ h g
theorem cmpI_trans {a b c : Int} (h : cmpI a b = -1) (g : cmpI b c = -1) : cmpI a c = -1 := by
  unfold cmpI at h g ⊢
  by_cases h1 : a < b
  · by_cases g1 : b < c
    · rw [if_pos (by omega)]
    · rw [if_neg g1] at g; split at g <;> omega
  · rw [if_neg h1] at h; split at h <;> omega
theorem cmpI_zero' {a b : Int} : cmpI a b = 0 ↔ a = b := ⟨cmpI_zero, fun h => h ▸ cmpI_eq a⟩
/-- Three that stand as a row: what holds of the first of two orders, and of the second where the first says 0. -/
theorem lex_trans {s1 s2 s3 t1 t2 t3 : Int} (h1 : s1 = -1 → s2 = -1 → s3 = -1) (h2 : s1 = 0 → s3 = s2) (h3 : s2 = 0 → s3 = s1) (k : s1 = 0 → s2 = 0 → t1 = -1 → t2 = -1 → t3 = -1) (a3 : s1 = -1 ∨ s1 = 0 ∨ s1 = 1) (b3 : s2 = -1 ∨ s2 = 0 ∨ s2 = 1)
    (h : (if s1 ≠ 0 then s1 else t1) = -1) (g : (if s2 ≠ 0 then s2 else t2) = -1) : (if s3 ≠ 0 then s3 else t3) = -1 := by
  by_cases e1 : s1 = 0
  · by_cases e2 : s2 = 0
    · rw [if_neg (by omega)] at h g
      rw [if_neg (by rw [h2 e1]; omega)]
      exact k e1 e2 h g
    · rw [if_pos e2] at g
      rw [h2 e1, if_pos e2]; exact g
  · rw [if_pos e1] at h
    by_cases e2 : s2 = 0
    · rw [h3 e2, if_pos e1]; exact h
    · rw [if_pos e2] at g
      have := h1 h g
      rw [if_pos (by omega)]; exact this
theorem cmpS_trans {p l n p' l' n' q m o : Int} (h : cmpS p l n p' l' n' = -1) (g : cmpS p' l' n' q m o = -1) : cmpS p l n q m o = -1 := by
  have e : ∀ a b c a' b' c' : Int, cmpS a b c a' b' c' = if cmpI a a' ≠ 0 then cmpI a a' else if cmpI b b' ≠ 0 then cmpI b b' else cmpI c c' := by
    intro a b c a' b' c'
    unfold cmpS
    by_cases e1 : a = a'
    · subst e1
      simp only [cmpI_eq, ne_eq, not_true_eq_false, if_true, if_false]
      by_cases e2 : b = b'
      · subst e2
        simp only [cmpI_eq, ne_eq, not_true_eq_false, if_true, if_false]
      · rw [if_neg e2, if_pos (fun h => e2 (cmpI_zero h))]
    · rw [if_neg e1, if_pos (fun h => e1 (cmpI_zero h))]
  rw [e] at h g ⊢
  exact lex_trans cmpI_trans (fun h => by rw [cmpI_zero h]) (fun h => by rw [cmpI_zero h]) (fun a b => lex_trans cmpI_trans (fun h => by rw [cmpI_zero h]) (fun h => by rw [cmpI_zero h]) (fun _ _ => cmpI_trans) (cmpI_three _ _) (cmpI_three _ _)) (cmpI_three _ _) (cmpI_three _ _) h g
/-- A record but for its key. -/
structure R where
  p : Int
  l : Int
  n : Int
  d : Int
  f : Int
  x : Int
  b : ByteArray
def cmp2 (a c : R) : Int := cmpR a.p a.l a.n a.d a.f a.x a.b c.p c.l c.n c.d c.f c.x c.b
theorem cmpR_if (ap al an ad af ax : Int) (ab : ByteArray) (cp cl cn cd cf cx : Int) (cb : ByteArray) : cmpR ap al an ad af ax ab cp cl cn cd cf cx cb = if cmpS ap al an cp cl cn ≠ 0 then cmpS ap al an cp cl cn else if cmpI ad cd ≠ 0 then cmpI ad cd else if cmpB ab cb ≠ 0 then cmpB ab cb else if cmpI af cf ≠ 0 then cmpI af cf else cmpI ax cx := by
  unfold cmpR
  simp only [orF, cmpV]
  (repeat' split) <;> simp_all
theorem cmp2_if (a c : R) : cmp2 a c = if cmpS a.p a.l a.n c.p c.l c.n ≠ 0 then cmpS a.p a.l a.n c.p c.l c.n else if cmpI a.d c.d ≠ 0 then cmpI a.d c.d else if cmpB a.b c.b ≠ 0 then cmpB a.b c.b else if cmpI a.f c.f ≠ 0 then cmpI a.f c.f else cmpI a.x c.x := cmpR_if ..
theorem cmp2_neg (a c : R) : cmp2 c a = - cmp2 a c := by
  rw [cmp2_if, cmp2_if, cmpS_neg a.p, cmpI_neg a.d, cmpB_neg a.b, cmpI_neg a.f, cmpI_neg a.x]
  have e : ∀ z t t' : Int, t' = - t → (if -z ≠ 0 then -z else t') = - (if z ≠ 0 then z else t) := by
    intro z t t' h
    by_cases e : z = 0
    · rw [if_neg (by omega), if_neg (by omega)]; exact h
    · rw [if_pos (by omega), if_pos (by omega)]
  exact e _ _ _ (e _ _ _ (e _ _ _ (e _ _ _ rfl)))
theorem cmp2_zero {a c : R} : cmp2 a c = 0 ↔ a = c := by
  constructor
  · intro h
    rw [cmp2_if] at h
    have e : ∀ z t : Int, (if z ≠ 0 then z else t) = 0 → z = 0 ∧ t = 0 := by
      intro z t h
      by_cases e : z = 0
      · rw [if_neg (by omega)] at h; exact ⟨e, h⟩
      · rw [if_pos e] at h; exact absurd h e
    obtain ⟨h1, h⟩ := e _ _ h
    obtain ⟨h2, h⟩ := e _ _ h
    obtain ⟨h3, h⟩ := e _ _ h
    obtain ⟨h4, h5⟩ := e _ _ h
    obtain ⟨e1, e2, e3⟩ := cmpS_zero.1 h1
    obtain ⟨_, _, _, _, _, _, _⟩ := a
    obtain ⟨_, _, _, _, _, _, _⟩ := c
    simp only at e1 e2 e3 h2 h3 h4 h5
    rw [e1, e2, e3, cmpI_zero h2, cmpB_zero.1 h3, cmpI_zero h4, cmpI_zero h5]
  · rintro rfl
    rw [cmp2_if, if_neg (by simp [cmpS_zero]), if_neg (by simp [cmpI_eq]), if_neg (by simp [cmpB_zero]), if_neg (by simp [cmpI_eq]), cmpI_eq]
theorem cmp2_three (a c : R) : cmp2 a c = -1 ∨ cmp2 a c = 0 ∨ cmp2 a c = 1 := by
  rw [cmp2_if]
  have e : ∀ z t : Int, (z = -1 ∨ z = 0 ∨ z = 1) → (t = -1 ∨ t = 0 ∨ t = 1) → ((if z ≠ 0 then z else t) = -1 ∨ (if z ≠ 0 then z else t) = 0 ∨ (if z ≠ 0 then z else t) = 1) := by
    intro z t h g
    split
    · exact h
    · exact g
  exact e _ _ (cmpS_three ..) (e _ _ (cmpI_three ..) (e _ _ (cmpB_three ..) (e _ _ (cmpI_three ..) (cmpI_three ..))))
theorem cmp2_trans {a b c : R} (h : cmp2 a b = -1) (g : cmp2 b c = -1) : cmp2 a c = -1 := by
  rw [cmp2_if] at h g ⊢
  refine lex_trans cmpS_trans (fun h => by obtain ⟨e1, e2, e3⟩ := cmpS_zero.1 h; rw [e1, e2, e3]) (fun h => by obtain ⟨e1, e2, e3⟩ := cmpS_zero.1 h; rw [e1, e2, e3]) (fun _ _ => ?_) (cmpS_three ..) (cmpS_three ..) h g
  refine lex_trans cmpI_trans (fun h => by rw [cmpI_zero h]) (fun h => by rw [cmpI_zero h]) (fun _ _ => ?_) (cmpI_three ..) (cmpI_three ..)
  refine lex_trans cmpB_trans (fun h => by rw [cmpB_zero.1 h]) (fun h => by rw [cmpB_zero.1 h]) (fun _ _ => ?_) (cmpB_three ..) (cmpB_three ..)
  exact lex_trans cmpI_trans (fun h => by rw [cmpI_zero h]) (fun h => by rw [cmpI_zero h]) (fun _ _ => cmpI_trans) (cmpI_three ..) (cmpI_three ..)
end Go.Proofs.Ytlohnhjfdmldnaa.Rec

/- Plain laws of the number form: what was put is got; the bytes stand in order as the numbers do (own text). -/
import Derived.Test.YtlohnhjfdmldnaaNumText
import Derived.Lib.Strings
namespace Go.Proofs.Ytlohnhjfdmldnaa.Num
open Go.RowKit
set_option linter.unusedVariables false
set_option linter.unusedSimpArgs false

theorem byt_data (s : ByteArray) (i : Int) : byt s i = ((s.data.toList[i.toNat]?.getD 0).toNat : Int) := by
  unfold byt
  split
  · rename_i h
    have h2 : i.toNat < s.data.toList.length := by rw [← Lib.size_eq]; exact h
    rw [List.getElem?_eq_getElem h2]
    rfl
  · rename_i h
    have h2 : s.data.toList.length ≤ i.toNat := by rw [← Lib.size_eq]; omega
    rw [List.getElem?_eq_none h2]
    rfl
theorem append_data (s t : ByteArray) : (s ++ t).data.toList = s.data.toList ++ t.data.toList := by
  simp
/-- The byte of a text that stands between two others. -/
theorem byt_mid (p t q : ByteArray) (i : Int) (h0 : 0 ≤ i) (h1 : i < t.size) : byt (p ++ t ++ q) (p.size + i) = byt t i := by
  rw [byt_data, byt_data, append_data, append_data]
  have e : ((p.size : Int) + i).toNat = p.data.toList.length + i.toNat := by rw [← Lib.size_eq]; omega
  have h2 : i.toNat < t.data.toList.length := by rw [← Lib.size_eq]; omega
  rw [e, List.append_assoc, List.getElem?_append_right (by omega), Nat.add_sub_cancel_left, List.getElem?_append_left h2]
theorem byt_nums (l : List Int) (h : ∀ x ∈ l, 0 ≤ x ∧ x < 256) (i : Int) : byt (strOfNums l) i = l[i.toNat]?.getD 0 := by
  rw [byt_data, strOfNums_data, List.getElem?_map]
  cases hx : l[i.toNat]? with
  | none => rfl
  | some x =>
    have := h x (List.mem_of_getElem? hx)
    simp only [Option.map_some, Option.getD_some]
    rw [UInt8.toNat_ofNat']
    omega
theorem bytesL_range {n : Int} (h0 : 0 ≤ n) (h1 : n < 4611686018427387904) : ∀ x ∈ bytesL n, 0 ≤ x ∧ x < 256 := by
  intro x hx
  by_cases c1 : n < 64
  · rw [bytesL_0 c1] at hx; simp only [List.mem_cons, List.not_mem_nil, or_false] at hx; omega
  by_cases c2 : n < 16384
  · rw [bytesL_1 (by omega) c2] at hx; simp only [List.mem_cons, List.not_mem_nil, or_false] at hx; omega
  by_cases c3 : n < 1073741824
  · rw [bytesL_2 (by omega) c3] at hx; simp only [List.mem_cons, List.not_mem_nil, or_false] at hx; omega
  · rw [bytesL_3 (by omega)] at hx; simp only [List.mem_cons, List.not_mem_nil, or_false] at hx; omega
theorem size_append3 (p t q : ByteArray) : (p ++ t ++ q).size = p.size + t.size + q.size := by simp [ByteArray.size_append]
/-- Wherever a number's bytes stand, they are read as it. -/
theorem get_put (n : Int) (p q : ByteArray) (h0 : 0 ≤ n) (h1 : n < 4611686018427387904) :
    getS (p ++ putB n ++ q) p.size = (n, (p.size : Int) + ((putB n).size : Int), 0) := by
  have hr := bytesL_range h0 h1
  have hb : ∀ i : Int, 0 ≤ i → i < (bytesL n).length → byt (p ++ putB n ++ q) (p.size + i) = (bytesL n)[i.toNat]?.getD 0 := by
    intro i hi hl
    rw [byt_mid _ _ _ _ hi (by rw [putB_size h1]; exact hl), putB_small h1, byt_nums _ hr]
  have hb0 := hb 0 (by omega) (by rw [bytesL_length]; (repeat' split) <;> decide)
  rw [Int.add_zero] at hb0
  have hsz := size_append3 p (putB n) q
  have hpz := putB_size h1
  unfold getS
  rw [if_neg (by rw [hsz]; omega), if_neg (by rw [hsz, hpz, bytesL_length]; (repeat' split) <;> omega)]
  by_cases c1 : n < 64
  · rw [bytesL_0 c1] at hb0 hb hpz
    have e1 : byt (p ++ putB n ++ q) p.size / 64 = 0 := by rw [hb0]; simp; omega
    have e2 : nval (p ++ putB n ++ q) p.size 0 = n := by simp only [nval]; rw [hb0]; simp; omega
    rw [e1, show wide 0 = 1 from rfl, show least 0 = 0 from rfl, if_neg (by rw [hsz, hpz]; simp; omega), show 1 - 1 = 0 from rfl, e2, whole_hi (by omega), hpz]; rfl
  by_cases c2 : n < 16384
  · rw [bytesL_1 (by omega) c2] at hb0 hb hpz
    have b1 := hb 1 (by omega) (by simp)
    simp at hb0 b1
    have e1 : byt (p ++ putB n ++ q) p.size / 64 = 1 := by rw [hb0]; omega
    have e2 : nval (p ++ putB n ++ q) p.size 1 = n := by simp only [nval]; rw [hb0]; simp; rw [b1]; omega
    rw [e1, show wide 1 = 2 from rfl, show least 1 = 64 from rfl, if_neg (by rw [hsz, hpz]; simp; omega), show 2 - 1 = 1 from rfl, e2, whole_hi (by omega), hpz]; rfl
  by_cases c3 : n < 1073741824
  · rw [bytesL_2 (by omega) c3] at hb0 hb hpz
    have b1 := hb 1 (by omega) (by simp)
    have b2 := hb 2 (by omega) (by simp)
    have b3 := hb 3 (by omega) (by simp)
    simp at hb0 b1 b2 b3
    have e1 : byt (p ++ putB n ++ q) p.size / 64 = 2 := by rw [hb0]; omega
    have e2 : nval (p ++ putB n ++ q) p.size 3 = n := by simp only [nval]; rw [hb0]; simp; rw [b1, b2, b3]; omega
    rw [e1, show wide 2 = 4 from rfl, show least 2 = 16384 from rfl, if_neg (by rw [hsz, hpz]; simp; omega), show 4 - 1 = 3 from rfl, e2, whole_hi (by omega), hpz]; rfl
  · rw [bytesL_3 (by omega)] at hb0 hb hpz
    have b1 := hb 1 (by omega) (by simp)
    have b2 := hb 2 (by omega) (by simp)
    have b3 := hb 3 (by omega) (by simp)
    have b4 := hb 4 (by omega) (by simp)
    have b5 := hb 5 (by omega) (by simp)
    have b6 := hb 6 (by omega) (by simp)
    have b7 := hb 7 (by omega) (by simp)
    simp at hb0 b1 b2 b3 b4 b5 b6 b7
    have e1 : byt (p ++ putB n ++ q) p.size / 64 = 3 := by rw [hb0]; omega
    have e2 : nval (p ++ putB n ++ q) p.size 7 = n := by simp only [nval]; rw [hb0]; simp; rw [b1, b2, b3, b4, b5, b6, b7]; omega
    rw [e1, show wide 3 = 8 from rfl, show least 3 = 1073741824 from rfl, if_neg (by rw [hsz, hpz]; simp; omega), show 8 - 1 = 7 from rfl, e2, whole_hi (by omega), hpz]; rfl
theorem extract_mid (p t q : ByteArray) : (p ++ t ++ q).extract p.size (p.size + t.size) = t := by
  have h : ((p ++ t ++ q).extract p.size (p.size + t.size)).data.toList = t.data.toList := by
    rw [Lib.extract_data, append_data, append_data, List.append_assoc, Lib.size_eq p, List.drop_left, Nat.add_sub_cancel_left, Lib.size_eq t, List.take_left]
  rw [← Lib.mk_data ((p ++ t ++ q).extract p.size (p.size + t.size)), h, Lib.mk_data]
/-- Wherever a text's bytes stand, they are read as it, if it isn't longer than may be. -/
theorem get_text (t p q : ByteArray) (most : Int) (h1 : (t.size : Int) < 4611686018427387904) :
    textS (p ++ textB t ++ q) p.size most = if (t.size : Int) > most then (⟨#[]⟩, 0, 4) else (t, (p.size : Int) + ((textB t).size : Int), 0) := by
  have hg := get_put t.size p (t ++ q) (by omega) h1
  have e : p ++ putB t.size ++ (t ++ q) = p ++ textB t ++ q := by unfold textB; simp only [ByteArray.append_assoc]
  rw [e] at hg
  have hsz : (p ++ textB t ++ q).size = p.size + (putB t.size).size + t.size + q.size := by unfold textB; simp only [ByteArray.size_append]; omega
  have hz : (textB t).size = (putB t.size).size + t.size := by unfold textB; simp only [ByteArray.size_append]
  rw [textS_of, hg]
  unfold textOf
  simp only [if_true]
  by_cases h2 : (t.size : Int) > most
  · rw [if_pos (.inr h2), if_pos h2]
  · rw [if_neg (by omega), if_neg (by rw [hsz]; omega), if_neg h2]
    have e1 : ((p.size : Int) + ((putB t.size).size : Int)).toNat = (p ++ putB t.size).size := by rw [ByteArray.size_append]; omega
    have e2 : ((p.size : Int) + ((putB t.size).size : Int) + (t.size : Int)).toNat = (p ++ putB t.size).size + t.size := by rw [ByteArray.size_append]; omega
    have e3 : p ++ textB t ++ q = (p ++ putB t.size) ++ t ++ q := by unfold textB; simp only [ByteArray.append_assoc]
    rw [e1, e2, e3, extract_mid, hz]
    simp only [Prod.mk.injEq, true_and, and_true]
    omega

/-! ### The order -/
theorem less_cons (a b : UInt8) (x y : List UInt8) : Op.bytesLess (a :: x) (b :: y) = (decide (a < b) || (a == b && Op.bytesLess x y)) := rfl
/-- The number that digits are. -/
def valD : Int → List Int → Int
  | v, [] => v
  | v, d :: l => valD (v * 256 + d) l
theorem valD_lo (l : List Int) (h : ∀ x ∈ l, 0 ≤ x ∧ x < 256) : ∀ v w : Int, v < w → valD v l < valD w l := by
  induction l with
  | nil => intro v w h; exact h
  | cons d l ih =>
    intro v w hv
    exact ih (fun x hx => h x (List.mem_cons_of_mem _ hx)) _ _ (by omega)
/-- Of one length: the least value of the greater beginning is above the greatest of the lesser one. -/
theorem valD_apart : ∀ (l m : List Int), l.length = m.length → (∀ x ∈ l, 0 ≤ x ∧ x < 256) → (∀ x ∈ m, 0 ≤ x ∧ x < 256) → ∀ v w : Int, v < w → valD v l < valD w m
  | [], [], _, _, _, v, w, h => h
  | d :: l, e :: m, hl, h1, h2, v, w, h => by
    have a := h1 d (List.mem_cons_self ..)
    have b := h2 e (List.mem_cons_self ..)
    exact valD_apart l m (by simpa using hl) (fun x hx => h1 x (List.mem_cons_of_mem _ hx)) (fun x hx => h2 x (List.mem_cons_of_mem _ hx)) _ _ (by omega)
theorem ofNat_lt {a b : Int} (h0 : 0 ≤ a) (h1 : a < 256) (h2 : 0 ≤ b) (h3 : b < 256) : (UInt8.ofNat a.toNat < UInt8.ofNat b.toNat) ↔ a < b := by
  rw [UInt8.lt_iff_toNat_lt, UInt8.toNat_ofNat', UInt8.toNat_ofNat']; omega
theorem ofNat_eq {a b : Int} (h0 : 0 ≤ a) (h1 : a < 256) (h2 : 0 ≤ b) (h3 : b < 256) : (UInt8.ofNat a.toNat = UInt8.ofNat b.toNat) ↔ a = b := by
  rw [← UInt8.toNat_inj, UInt8.toNat_ofNat', UInt8.toNat_ofNat']; omega
/-- Texts of one length stand in order as the numbers do. -/
theorem less_valD : ∀ (l m : List Int), l.length = m.length → (∀ x ∈ l, 0 ≤ x ∧ x < 256) → (∀ x ∈ m, 0 ≤ x ∧ x < 256) → ∀ v : Int,
    (Op.bytesLess (l.map fun n => UInt8.ofNat n.toNat) (m.map fun n => UInt8.ofNat n.toNat) = true ↔ valD v l < valD v m)
  | [], [], _, _, _, v => by simp [Op.bytesLess, valD]
  | d :: l, e :: m, hl, h1, h2, v => by
    have a := h1 d (List.mem_cons_self ..)
    have b := h2 e (List.mem_cons_self ..)
    have h1' := fun x hx => h1 x (List.mem_cons_of_mem d hx)
    have h2' := fun x hx => h2 x (List.mem_cons_of_mem e hx)
    have hl' : l.length = m.length := by simpa using hl
    rw [List.map_cons, List.map_cons, less_cons]
    simp only [Bool.or_eq_true, Bool.and_eq_true, decide_eq_true_eq, beq_iff_eq, ofNat_lt a.1 a.2 b.1 b.2, ofNat_eq a.1 a.2 b.1 b.2, valD]
    by_cases c : d < e
    · exact ⟨fun _ => valD_apart l m hl' h1' h2' _ _ (by omega), fun _ => .inl c⟩
    · by_cases c2 : d = e
      · subst c2
        rw [less_valD l m hl' h1' h2' (v * 256 + d)]
        exact ⟨fun h => h.elim (fun h => absurd h c) (fun h => h.2), fun h => .inr ⟨rfl, h⟩⟩
      · have := valD_apart m l hl'.symm h2' h1' (v * 256 + e) (v * 256 + d) (by omega)
        exact ⟨fun h => h.elim (fun h => absurd h c) (fun h => absurd h.1 c2), fun h => by omega⟩
theorem valD_0 {n : Int} (h1 : n < 64) : valD 0 (bytesL n) = n := by rw [bytesL_0 h1]; simp only [valD]; omega
theorem valD_1 {n : Int} (h0 : 64 ≤ n) (h1 : n < 16384) : valD 0 (bytesL n) = n + 16384 := by rw [bytesL_1 h0 h1]; simp only [valD]; omega
theorem valD_2 {n : Int} (h0 : 16384 ≤ n) (h1 : n < 1073741824) : valD 0 (bytesL n) = n + 2147483648 := by rw [bytesL_2 h0 h1]; simp only [valD]; omega
theorem valD_3 {n : Int} (h0 : 1073741824 ≤ n) : valD 0 (bytesL n) = n + 13835058055282163712 := by rw [bytesL_3 h0]; simp only [valD]; omega
theorem putB_list {n : Int} (h1 : n < 4611686018427387904) : (putB n).toList = (bytesL n).map fun n => UInt8.ofNat n.toNat := by
  rw [putB_small h1, Lib.toList_data, strOfNums_data]
/-- A number's first byte tells its form. -/
theorem bytesL_head {n : Int} (h0 : 0 ≤ n) (h1 : n < 4611686018427387904) : ∃ d l, bytesL n = d :: l ∧ 0 ≤ d ∧ d < 256 ∧ (n < 64 → d < 64) ∧ (64 ≤ n → n < 16384 → 64 ≤ d ∧ d < 128) ∧ (16384 ≤ n → n < 1073741824 → 128 ≤ d ∧ d < 192) ∧ (1073741824 ≤ n → 192 ≤ d) := by
  by_cases c1 : n < 64
  · exact ⟨_, _, bytesL_0 c1, by omega, by omega, by omega, by omega, by omega, by omega⟩
  by_cases c2 : n < 16384
  · exact ⟨_, _, bytesL_1 (by omega) c2, by omega, by omega, by omega, by omega, by omega, by omega⟩
  by_cases c3 : n < 1073741824
  · exact ⟨_, _, bytesL_2 (by omega) c3, by omega, by omega, by omega, by omega, by omega, by omega⟩
  · exact ⟨_, _, bytesL_3 (by omega), by omega, by omega, by omega, by omega, by omega, by omega⟩
/-- The bytes stand in order as the numbers do. -/
theorem putB_less {n m : Int} (h0 : 0 ≤ n) (h : n ≤ m) (h1 : m < 4611686018427387904) : Op.bytesLess (putB m).toList (putB n).toList = false := by
  rw [putB_list h1, putB_list (by omega)]
  have rn := bytesL_range h0 (by omega)
  have rm := bytesL_range (by omega) h1
  by_cases hl : (bytesL m).length = (bytesL n).length
  · have := less_valD _ _ hl rm rn 0
    have hv : ¬ valD 0 (bytesL m) < valD 0 (bytesL n) := by
      rw [bytesL_length, bytesL_length] at hl
      by_cases c1 : n < 64
      · rw [valD_0 c1]
        by_cases d1 : m < 64
        · rw [valD_0 d1]; omega
        · rw [if_neg d1, if_pos c1] at hl; split at hl <;> (try split at hl) <;> omega
      by_cases c2 : n < 16384
      · rw [valD_1 (by omega) c2]
        by_cases d2 : m < 16384
        · rw [valD_1 (by omega) d2]; omega
        · rw [if_neg (by omega), if_neg d2, if_neg c1, if_pos c2] at hl; split at hl <;> omega
      by_cases c3 : n < 1073741824
      · rw [valD_2 (by omega) c3]
        by_cases d3 : m < 1073741824
        · rw [valD_2 (by omega) d3]; omega
        · rw [if_neg (by omega), if_neg (by omega), if_neg d3, if_neg c1, if_neg c2, if_pos c3] at hl; omega
      · rw [valD_3 (by omega), valD_3 (by omega)]; omega
    cases hb : Op.bytesLess (List.map (fun n => UInt8.ofNat n.toNat) (bytesL m)) (List.map (fun n => UInt8.ofNat n.toNat) (bytesL n)) with
    | false => rfl
    | true => exact absurd (this.1 hb) hv
  · obtain ⟨d, l, e1, d0, d1, d2, d3, d4, d5⟩ := bytesL_head (show 0 ≤ m by omega) h1
    obtain ⟨d', l', e2, d0', d1', d2', d3', d4', d5'⟩ := bytesL_head h0 (show n < 4611686018427387904 by omega)
    have hd : d' < d := by
      rw [bytesL_length, bytesL_length] at hl
      by_cases c1 : m < 64
      · rw [if_pos c1, if_pos (by omega)] at hl; omega
      by_cases c2 : m < 16384
      · by_cases n1 : n < 64
        · have := d2' n1; have := d3 (by omega) c2; omega
        · rw [if_neg c1, if_pos c2, if_neg n1, if_pos (by omega)] at hl; omega
      by_cases c3 : m < 1073741824
      · by_cases n2 : n < 16384
        · by_cases n1 : n < 64
          · have := d2' n1; have := d4 (by omega) c3; omega
          · have := d3' (by omega) n2; have := d4 (by omega) c3; omega
        · rw [if_neg c1, if_neg c2, if_pos c3, if_neg (by omega), if_neg n2, if_pos (by omega)] at hl; omega
      · by_cases n3 : n < 1073741824
        · by_cases n2 : n < 16384
          · by_cases n1 : n < 64
            · have := d2' n1; have := d5 (by omega); omega
            · have := d3' (by omega) n2; have := d5 (by omega); omega
          · have := d4' (by omega) n3; have := d5 (by omega); omega
        · rw [if_neg c1, if_neg c2, if_neg c3, if_neg (by omega), if_neg (by omega), if_neg n3] at hl; omega
    rw [e1, e2, List.map_cons, List.map_cons, less_cons]
    have x1 : ¬ (UInt8.ofNat d.toNat < UInt8.ofNat d'.toNat) := by rw [ofNat_lt d0 d1 d0' d1']; omega
    have x2 : ¬ (UInt8.ofNat d.toNat = UInt8.ofNat d'.toNat) := by rw [ofNat_eq d0 d1 d0' d1']; omega
    simp [x1, x2]
/-- Unlike numbers have unlike bytes. -/
theorem putB_inj {n m : Int} (h0 : 0 ≤ n) (hn : n < 4611686018427387904) (hm0 : 0 ≤ m) (hm : m < 4611686018427387904) : ((putB n).toList == (putB m).toList) = (n == m) := by
  by_cases h : n = m
  · subst h; simp
  · have h1 : ¬ (putB n).toList = (putB m).toList := by
      intro e
      have e1 : putB n = putB m := by
        rw [Lib.toList_data, Lib.toList_data] at e
        rw [← Lib.mk_data (putB n), e, Lib.mk_data]
      have g1 := get_put n ⟨#[]⟩ ⟨#[]⟩ h0 hn
      have g2 := get_put m ⟨#[]⟩ ⟨#[]⟩ hm0 hm
      rw [e1, g2] at g1
      simp only [Prod.mk.injEq] at g1
      exact h g1.1.symm
    rw [beq_eq_false_iff_ne.2 h1, beq_eq_false_iff_ne.2 h]
end Go.Proofs.Ytlohnhjfdmldnaa.Num

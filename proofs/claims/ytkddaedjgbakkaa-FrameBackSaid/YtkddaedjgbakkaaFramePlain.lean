/- Frames as bytes: the plain laws (own text). -/
import Derived.Test.YtkddaedjgbakkaaSumByte
namespace Go.Proofs.Ytkddaedjgbakkaa.Frame
open Go.Proofs.Ytkddaedjgbakkaa.Sum
set_option linter.unusedVariables false
set_option linter.unusedSimpArgs false
theorem ext_by {a b : ByteArray} (h : a.size = b.size) (k : ∀ i, i < a.size → by' a i = by' b i) : a = b := by
  apply ByteArray.ext
  apply Array.ext h
  intro i h1 h2
  have e := k i h1
  rw [← by_at a i h1, ← by_at b i h2] at e
  exact UInt8.toNat_inj.1 e
theorem by_sub (a : ByteArray) (m n k : Nat) (hk : m + k < n) (hn : n ≤ a.size) : by' (a.extract m n) k = by' a (m + k) := by
  have hz : (a.extract m n).size = n - m := by rw [ByteArray.size_extract]; omega
  unfold by'
  rw [dif_pos (by omega), dif_pos (by omega)]
  congr 1
  rw [ByteArray.getElem_extract]
theorem size_sub (a : ByteArray) (m n : Nat) (hn : n ≤ a.size) : (a.extract m n).size = n - m := by rw [ByteArray.size_extract]; omega
def b4 (p q r s : Nat) : Nat → Nat := fun i => match i with | 0 => p | 1 => q | 2 => r | _ => s
/-- A number in four bytes. -/
def fourB (n : Nat) : ByteArray := ofB 4 (b4 (n / 16777216 % 256) (n / 65536 % 256) (n / 256 % 256) (n % 256))
def headB (k f t : Nat) : ByteArray := ofB 4 (b4 1 k f t)
def num4 (s : ByteArray) (i : Nat) : Nat := by' s i * 16777216 + by' s (i + 1) * 65536 + by' s (i + 2) * 256 + by' s (i + 3)
def mayF (k f t : Nat) : Bool := decide (1 ≤ k ∧ k ≤ 14 ∧ f ≤ 63 ∧ t ≤ 63)
def preB (k f t : Nat) (b : ByteArray) : ByteArray := headB k f t ++ fourB b.size ++ b
def encB (k f t : Nat) (b : ByteArray) : ByteArray := preB k f t b ++ fourB (more 0 (preB k f t b))
theorem fourB_size (n : Nat) : (fourB n).size = 4 := ofB_size _ _
theorem headB_size (k f t : Nat) : (headB k f t).size = 4 := ofB_size _ _
theorem preB_size (k f t : Nat) (b : ByteArray) : (preB k f t b).size = 8 + b.size := by
  unfold preB
  rw [ByteArray.size_append, ByteArray.size_append, headB_size, fourB_size]
theorem encB_size (k f t : Nat) (b : ByteArray) : (encB k f t b).size = 12 + b.size := by
  unfold encB
  rw [ByteArray.size_append, preB_size, fourB_size]; omega
theorem num4_lt (s : ByteArray) (i : Nat) : num4 s i < 4294967296 := by
  unfold num4
  have h0 := by_lt s i
  have h1 := by_lt s (i + 1)
  have h2 := by_lt s (i + 2)
  have h3 := by_lt s (i + 3)
  omega
theorem four_by {n i : Nat} (h : i < 4) : by' (fourB n) i = b4 (n / 16777216 % 256) (n / 65536 % 256) (n / 256 % 256) (n % 256) i := by
  refine ofB_at _ _ _ h ?_
  match i, h with
  | 0, _ => exact Nat.mod_lt _ (by decide)
  | 1, _ => exact Nat.mod_lt _ (by decide)
  | 2, _ => exact Nat.mod_lt _ (by decide)
  | 3, _ => exact Nat.mod_lt _ (by decide)
theorem head_by {k f t i : Nat} (hk : k < 256) (hf : f < 256) (ht : t < 256) (h : i < 4) : by' (headB k f t) i = b4 1 k f t i := by
  refine ofB_at _ _ _ h ?_
  match i, h with
  | 0, _ => show 1 < 256; decide
  | 1, _ => exact hk
  | 2, _ => exact hf
  | 3, _ => exact ht
theorem num4_four {n : Nat} (h : n < 4294967296) (s : ByteArray) (i : Nat) (hs : ∀ j, j < 4 → by' s (i + j) = by' (fourB n) j) : num4 s i = n := by
  unfold num4
  have e0 := hs 0 (by omega)
  have e1 := hs 1 (by omega)
  have e2 := hs 2 (by omega)
  have e3 := hs 3 (by omega)
  rw [four_by (by omega)] at e0 e1 e2 e3
  simp only [b4, Nat.add_zero] at e0 e1 e2 e3
  rw [e0, e1, e2, e3]
  omega
theorem dm {a r m : Nat} (h : r < m) : (a * m + r) / m = a ∧ (a * m + r) % m = r := by
  constructor
  · rw [Nat.add_comm, Nat.add_mul_div_right _ _ (by omega), Nat.div_eq_of_lt h, Nat.zero_add]
  · rw [Nat.add_comm, Nat.add_mul_mod_self_right, Nat.mod_eq_of_lt h]
theorem num4_row (s : ByteArray) (i : Nat) : num4 s i = ((by' s i * 256 + by' s (i + 1)) * 256 + by' s (i + 2)) * 256 + by' s (i + 3) := by
  unfold num4
  generalize by' s i = a
  generalize by' s (i + 1) = b
  generalize by' s (i + 2) = c
  generalize by' s (i + 3) = d
  omega
theorem four_num4 (s : ByteArray) (i : Nat) (j : Nat) (hj : j < 4) : by' (fourB (num4 s i)) j = by' s (i + j) := by
  rw [four_by hj, num4_row]
  have h0 := by_lt s i
  have h1 := by_lt s (i + 1)
  have h2 := by_lt s (i + 2)
  have h3 := by_lt s (i + 3)
  match j, hj with
  | 3, _ => exact (dm h3).2
  | 2, _ =>
    show _ / 256 % 256 = _
    rw [(dm h3).1]; exact (dm h2).2
  | 1, _ =>
    show _ / 65536 % 256 = _
    rw [show 65536 = 256 * 256 from rfl, ← Nat.div_div_eq_div_mul, (dm h3).1, (dm h2).1]; exact (dm h1).2
  | 0, _ =>
    show _ / 16777216 % 256 = _
    rw [show 16777216 = 256 * 256 * 256 from rfl, ← Nat.div_div_eq_div_mul, ← Nat.div_div_eq_div_mul, (dm h3).1, (dm h2).1, (dm h1).1]
    exact Nat.mod_eq_of_lt h0
theorem by_pre_head {k f t : Nat} {b : ByteArray} {i : Nat} (h : i < 4) : by' (preB k f t b) i = by' (headB k f t) i := by
  unfold preB
  rw [by_left _ _ _ (by rw [ByteArray.size_append, headB_size, fourB_size]; omega), by_left _ _ _ (by rw [headB_size]; omega)]
theorem by_pre_four {k f t : Nat} {b : ByteArray} {i : Nat} (h : i < 4) : by' (preB k f t b) (4 + i) = by' (fourB b.size) i := by
  unfold preB
  rw [by_left _ _ _ (by rw [ByteArray.size_append, headB_size, fourB_size]; omega)]
  have := by_right (headB k f t) (fourB b.size) i (by rw [fourB_size]; omega)
  rw [headB_size] at this
  exact this
theorem by_pre_body {k f t : Nat} {b : ByteArray} {i : Nat} (h : i < b.size) : by' (preB k f t b) (8 + i) = by' b i := by
  unfold preB
  have := by_right (headB k f t ++ fourB b.size) b i h
  rw [ByteArray.size_append, headB_size, fourB_size] at this
  exact this
theorem by_enc_pre {k f t : Nat} {b : ByteArray} {i : Nat} (h : i < 8 + b.size) : by' (encB k f t b) i = by' (preB k f t b) i := by
  unfold encB
  rw [by_left _ _ _ (by rw [preB_size]; omega)]
theorem by_enc_end {k f t : Nat} {b : ByteArray} {i : Nat} (h : i < 4) : by' (encB k f t b) (8 + b.size + i) = by' (fourB (more 0 (preB k f t b))) i := by
  unfold encB
  have := by_right (preB k f t b) (fourB (more 0 (preB k f t b))) i (by rw [fourB_size]; omega)
  rw [preB_size] at this
  exact this
/-- What stands ahead of the sum. -/
theorem pre_of {s : ByteArray} (h12 : 12 ≤ s.size) (h0 : by' s 0 = 1) (hn : num4 s 4 = s.size - 12) : preB (by' s 1) (by' s 2) (by' s 3) (s.extract 8 (s.size - 4)) = s.extract 0 (s.size - 4) := by
  have zb : (s.extract 8 (s.size - 4)).size = s.size - 12 := by rw [size_sub _ _ _ (by omega)]; omega
  have hz : (preB (by' s 1) (by' s 2) (by' s 3) (s.extract 8 (s.size - 4))).size = s.size - 4 := by rw [preB_size, zb]; omega
  refine ext_by (by rw [hz, size_sub _ _ _ (by omega)]; omega) (fun i hi => ?_)
  rw [hz] at hi
  rw [by_sub s 0 (s.size - 4) i (by omega) (by omega), Nat.zero_add]
  by_cases h4 : i < 4
  · rw [by_pre_head h4, head_by (by_lt _ _) (by_lt _ _) (by_lt _ _) h4]
    match i, h4 with
    | 0, _ => exact h0.symm
    | 1, _ => rfl
    | 2, _ => rfl
    | 3, _ => rfl
  · by_cases h8 : i < 8
    · obtain ⟨j, rfl⟩ : ∃ j, i = 4 + j := ⟨i - 4, by omega⟩
      rw [by_pre_four (by omega), zb, ← hn, four_num4 s 4 j (by omega)]
    · obtain ⟨j, rfl⟩ : ∃ j, i = 8 + j := ⟨i - 8, by omega⟩
      rw [by_pre_body (by rw [zb]; omega), by_sub s 8 (s.size - 4) j (by omega) (by omega)]
/-- The frame of what was read is the very text just where the sum is right. -/
theorem enc_of {s : ByteArray} (h12 : 12 ≤ s.size) (h0 : by' s 0 = 1) (hn : num4 s 4 = s.size - 12) :
    encB (by' s 1) (by' s 2) (by' s 3) (s.extract 8 (s.size - 4)) = s ↔ more 0 (s.extract 0 (s.size - 4)) = num4 s (s.size - 4) := by
  have hp := pre_of h12 h0 hn
  have hl : more 0 (s.extract 0 (s.size - 4)) < 4294967296 := more_lt _ (by decide)
  have zb : (s.extract 8 (s.size - 4)).size = s.size - 12 := by rw [size_sub _ _ _ (by omega)]; omega
  have zp : (s.extract 0 (s.size - 4)).size = s.size - 4 := by rw [size_sub _ _ _ (by omega)]; omega
  unfold encB
  rw [hp]
  constructor
  · intro h
    refine (num4_four hl s (s.size - 4) (fun j hj => ?_)).symm
    have := by_right (s.extract 0 (s.size - 4)) (fourB (more 0 (s.extract 0 (s.size - 4)))) j (by rw [fourB_size]; omega)
    rw [h, zp] at this
    exact this
  · intro h
    refine ext_by (by rw [ByteArray.size_append, zp, fourB_size]; omega) (fun i hi => ?_)
    rw [ByteArray.size_append, zp, fourB_size] at hi
    by_cases hlt : i < s.size - 4
    · rw [by_left _ _ _ (by omega), by_sub s 0 (s.size - 4) i (by omega) (by omega), Nat.zero_add]
    · obtain ⟨j, rfl⟩ : ∃ j, i = (s.size - 4) + j := ⟨i - (s.size - 4), by omega⟩
      have := by_right (s.extract 0 (s.size - 4)) (fourB (more 0 (s.extract 0 (s.size - 4)))) j (by rw [fourB_size]; omega)
      rw [zp] at this
      rw [this, h, four_num4 s (s.size - 4) j (by omega)]
/-- What bytes are read as: the kind, the sender, the receiver, the body, the error's number. -/
def decR (s : ByteArray) : Nat × Nat × Nat × ByteArray × Int :=
  if s.size < 12 then (0, 0, 0, ⟨#[]⟩, 2)
  else if ¬ by' s 0 = 1 then (0, 0, 0, ⟨#[]⟩, 3)
  else if mayF (by' s 1) (by' s 2) (by' s 3) = false then (0, 0, 0, ⟨#[]⟩, 3)
  else if 1048576 < num4 s 4 then (0, 0, 0, ⟨#[]⟩, 4)
  else if s.size < 12 + num4 s 4 then (0, 0, 0, ⟨#[]⟩, 2)
  else if 12 + num4 s 4 < s.size then (0, 0, 0, ⟨#[]⟩, 3)
  else if ¬ more 0 (s.extract 0 (s.size - 4)) = num4 s (s.size - 4) then (0, 0, 0, ⟨#[]⟩, 5)
  else (by' s 1, by' s 2, by' s 3, s.extract 8 (s.size - 4), 0)
theorem dec_enc (k f t : Nat) (b : ByteArray) (hm : mayF k f t = true) (hb : b.size ≤ 1048576) : decR (encB k f t b) = (k, f, t, b, 0) := by
  have hmd := of_decide_eq_true hm
  have hz := encB_size k f t b
  have e0 : ∀ i, i < 4 → by' (encB k f t b) i = b4 1 k f t i := fun i hi => by
    rw [by_enc_pre (by omega), by_pre_head hi, head_by (by omega) (by omega) (by omega) hi]
  have g0 : by' (encB k f t b) 0 = 1 := e0 0 (by omega)
  have g1 : by' (encB k f t b) 1 = k := e0 1 (by omega)
  have g2 : by' (encB k f t b) 2 = f := e0 2 (by omega)
  have g3 : by' (encB k f t b) 3 = t := e0 3 (by omega)
  have gn : num4 (encB k f t b) 4 = b.size := num4_four (by omega) _ _ (fun j hj => by rw [by_enc_pre (by omega), by_pre_four hj])
  have gb : (encB k f t b).extract 8 ((encB k f t b).size - 4) = b := by
    rw [hz]
    refine ext_by (by rw [size_sub _ _ _ (by omega)]; omega) (fun i hi => ?_)
    rw [size_sub _ _ _ (by omega)] at hi
    rw [by_sub _ _ _ _ (by omega) (by omega), by_enc_pre (by omega), by_pre_body (by omega)]
  have hs := (enc_of (s := encB k f t b) (by omega) g0 (by rw [gn, hz]; omega)).1 (by rw [g1, g2, g3, gb])
  unfold decR
  rw [if_neg (by omega), if_neg (by rw [g0]; simp), g1, g2, g3, hm, if_neg (by simp), gn, if_neg (by omega), if_neg (by omega), if_neg (by omega), if_neg (by simp [hs]), gb]
theorem dec_ok {s : ByteArray} {k f t : Nat} {b : ByteArray} {e : Int} (h : decR s = (k, f, t, b, e)) (he : e = 0) : mayF k f t = true ∧ b.size ≤ 1048576 ∧ encB k f t b = s ∧ k < 256 ∧ f < 256 ∧ t < 256 := by
  unfold decR at h
  by_cases h1 : s.size < 12
  · rw [if_pos h1] at h; cases h; omega
  rw [if_neg h1] at h
  by_cases h2 : ¬ by' s 0 = 1
  · rw [if_pos h2] at h; cases h; omega
  rw [if_neg h2] at h
  by_cases h3 : mayF (by' s 1) (by' s 2) (by' s 3) = false
  · rw [if_pos h3] at h; cases h; omega
  rw [if_neg h3] at h
  by_cases h4 : 1048576 < num4 s 4
  · rw [if_pos h4] at h; cases h; omega
  rw [if_neg h4] at h
  by_cases h5 : s.size < 12 + num4 s 4
  · rw [if_pos h5] at h; cases h; omega
  rw [if_neg h5] at h
  by_cases h6 : 12 + num4 s 4 < s.size
  · rw [if_pos h6] at h; cases h; omega
  rw [if_neg h6] at h
  by_cases h7 : ¬ more 0 (s.extract 0 (s.size - 4)) = num4 s (s.size - 4)
  · rw [if_pos h7] at h; cases h; omega
  rw [if_neg h7] at h
  cases h
  refine ⟨by simpa using h3, by rw [size_sub _ _ _ (by omega)]; omega, (enc_of (by omega) (by omega) (by omega)).2 (by omega), by_lt _ _, by_lt _ _, by_lt _ _⟩
end Go.Proofs.Ytkddaedjgbakkaa.Frame

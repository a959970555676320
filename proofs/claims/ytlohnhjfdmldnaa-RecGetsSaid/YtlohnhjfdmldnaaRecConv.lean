/- What is got is just what is put: the plain law (own text). -/
import Derived.Test.YtlohnhjfdmldnaaRecBack
import Derived.Test.YtlohnhjfdmldnaaRecChain
namespace Go.Proofs.Ytlohnhjfdmldnaa.Rec
open Go.Proofs.Ytlohnhjfdmldnaa Go.RowKit Go.Proofs.Ytlohnhjfdmldnaa.Mem
open Go.Proofs.Ytlohnhjfdmldnaa.Num (putB putE textB getS textS byt nval wide least)
set_option linter.unusedVariables false
set_option linter.unusedSimpArgs false
theorem nums_ext (s : ByteArray) (a : Nat) (L : List Int) (hL : ∀ i (h : i < L.length), L[i] = byt s ((a : Int) + (i : Int))) (hz : a + L.length ≤ s.size) : strOfNums L = s.extract a (a + L.length) := by
  apply ByteArray.ext
  apply Array.ext
  · show (strOfNums L).size = (s.extract a (a + L.length)).size
    rw [strOfNums_size, ByteArray.size_extract]; omega
  · intro i h1 h2
    have hi : i < L.length := by
      have : (strOfNums L).size = L.length := strOfNums_size L
      exact this ▸ h1
    have e1 : (strOfNums L).data[i] = UInt8.ofNat (L[i]).toNat := by simp [strOfNums]
    have e2 : (s.extract a (a + L.length)).data[i] = s[a + i]'(by omega) := ByteArray.getElem_extract (by rw [ByteArray.size_extract]; omega)
    rw [e1, e2, hL i hi]
    have hb := Num.byt_at s ((a : Int) + (i : Int)) (by omega)
    rw [← hb]
    simp only [Int.toNat_natCast]
    rw [UInt8.ofNat_toNat]
    congr 1
set_option maxHeartbeats 1600000 in
theorem got (s : ByteArray) (a n p : Int) (h : getS s a = (n, p, 0)) : ∃ x y : Nat, a = x ∧ p = y ∧ x ≤ y ∧ y ≤ s.size ∧ s.extract x y = putB n ∧ 0 ≤ n ∧ n < 4611686018427387904 := by
  have hr := Num.getS_range s a
  rw [h] at hr
  simp only [] at hr
  unfold Num.getS at h
  by_cases h0 : a < 0 ∨ a > s.size
  · rw [if_pos h0] at h; cases h
  rw [if_neg h0] at h
  by_cases h1 : a = s.size
  · rw [if_pos h1] at h; cases h
  rw [if_neg h1] at h
  obtain ⟨x, rfl⟩ : ∃ x : Nat, a = x := ⟨a.toNat, by omega⟩
  have b0 := Num.byt_range s x
  have hc : byt s x / 64 = 0 ∨ byt s x / 64 = 1 ∨ byt s x / 64 = 2 ∨ byt s x / 64 = 3 := by omega
  have key : ∀ (L : List Int), Num.bytesL n = L → (∀ i (h : i < L.length), L[i] = byt s ((x : Int) + (i : Int))) → x + L.length ≤ s.size → p = ((x + L.length : Nat) : Int) → ∃ u y : Nat, (x : Int) = u ∧ p = y ∧ u ≤ y ∧ y ≤ s.size ∧ s.extract u y = putB n ∧ 0 ≤ n ∧ n < 4611686018427387904 := fun L e hL hz hp => by
    refine ⟨x, x + L.length, rfl, hp, by omega, hz, ?_, hr.1, hr.2.1⟩
    rw [Num.putB_small hr.2.1, e]
    exact (nums_ext s x L hL hz).symm
  rcases hc with hc | hc | hc | hc
  · have ew : wide 0 = 1 := rfl
    have el : least 0 = 0 := rfl
    rw [hc, ew, el] at h
    by_cases h2 : (s.size : Int) - x < ((1 : Nat) : Int)
    · rw [if_pos h2] at h; cases h
    rw [if_neg h2] at h
    have en : nval s x (1 - 1) = byt s x % 64 := rfl
    rw [en, Num.whole_hi (by omega)] at h
    have hn : byt s x % 64 = n := (Prod.ext_iff.1 h).1
    have hp : (x : Int) + ((1 : Nat) : Int) = p := (Prod.ext_iff.1 (Prod.ext_iff.1 h).2).1
    refine key [byt s x] ?_ ?_ (by simp; omega) (by simp; omega)
    · rw [Num.bytesL_0 (by omega)]
      simp only [List.cons.injEq, and_true]; omega
    · intro i hi
      match i, hi with
      | 0, _ => simp
  · have ew : wide 1 = 2 := rfl
    have el : least 1 = 64 := rfl
    rw [hc, ew, el] at h
    by_cases h2 : (s.size : Int) - x < ((2 : Nat) : Int)
    · rw [if_pos h2] at h; cases h
    rw [if_neg h2] at h
    have en : nval s x (2 - 1) = byt s x % 64 * 256 + byt s (x + 1) := rfl
    rw [en] at h
    have b1 := Num.byt_range s (x + 1)
    by_cases h3 : byt s x % 64 * 256 + byt s (x + 1) < 64
    · rw [Num.whole_lo h3] at h; cases h
    rw [Num.whole_hi h3] at h
    have hn : byt s x % 64 * 256 + byt s (x + 1) = n := (Prod.ext_iff.1 h).1
    have hp : (x : Int) + ((2 : Nat) : Int) = p := (Prod.ext_iff.1 (Prod.ext_iff.1 h).2).1
    refine key [byt s x, byt s (x + 1)] ?_ ?_ (by simp; omega) (by simp; omega)
    · rw [Num.bytesL_1 (by omega) (by omega)]
      simp only [List.cons.injEq, and_true]; omega
    · intro i hi
      match i, hi with
      | 0, _ => simp
      | 1, _ => simp
  · have ew : wide 2 = 4 := rfl
    have el : least 2 = 16384 := rfl
    rw [hc, ew, el] at h
    by_cases h2 : (s.size : Int) - x < ((4 : Nat) : Int)
    · rw [if_pos h2] at h; cases h
    rw [if_neg h2] at h
    have en : nval s x (4 - 1) = ((byt s x % 64 * 256 + byt s (x + 1)) * 256 + byt s (x + 2)) * 256 + byt s (x + 3) := rfl
    rw [en] at h
    have b1 := Num.byt_range s (x + 1)
    have b2 := Num.byt_range s (x + 2)
    have b3 := Num.byt_range s (x + 3)
    by_cases h3 : ((byt s x % 64 * 256 + byt s (x + 1)) * 256 + byt s (x + 2)) * 256 + byt s (x + 3) < 16384
    · rw [Num.whole_lo h3] at h; cases h
    rw [Num.whole_hi h3] at h
    have hn : ((byt s x % 64 * 256 + byt s (x + 1)) * 256 + byt s (x + 2)) * 256 + byt s (x + 3) = n := (Prod.ext_iff.1 h).1
    have hp : (x : Int) + ((4 : Nat) : Int) = p := (Prod.ext_iff.1 (Prod.ext_iff.1 h).2).1
    refine key [byt s x, byt s (x + 1), byt s (x + 2), byt s (x + 3)] ?_ ?_ (by simp; omega) (by simp; omega)
    · rw [Num.bytesL_2 (by omega) (by omega)]
      simp only [List.cons.injEq, and_true]; omega
    · intro i hi
      match i, hi with
      | 0, _ => simp
      | 1, _ => simp
      | 2, _ => simp
      | 3, _ => simp
  · have ew : wide 3 = 8 := rfl
    have el : least 3 = 1073741824 := rfl
    rw [hc, ew, el] at h
    by_cases h2 : (s.size : Int) - x < ((8 : Nat) : Int)
    · rw [if_pos h2] at h; cases h
    rw [if_neg h2] at h
    have en : nval s x (8 - 1) = ((((((byt s x % 64 * 256 + byt s (x + 1)) * 256 + byt s (x + 2)) * 256 + byt s (x + 3)) * 256 + byt s (x + 4)) * 256 + byt s (x + 5)) * 256 + byt s (x + 6)) * 256 + byt s (x + 7) := rfl
    rw [en] at h
    have b1 := Num.byt_range s (x + 1)
    have b2 := Num.byt_range s (x + 2)
    have b3 := Num.byt_range s (x + 3)
    have b4 := Num.byt_range s (x + 4)
    have b5 := Num.byt_range s (x + 5)
    have b6 := Num.byt_range s (x + 6)
    have b7 := Num.byt_range s (x + 7)
    by_cases h3 : ((((((byt s x % 64 * 256 + byt s (x + 1)) * 256 + byt s (x + 2)) * 256 + byt s (x + 3)) * 256 + byt s (x + 4)) * 256 + byt s (x + 5)) * 256 + byt s (x + 6)) * 256 + byt s (x + 7) < 1073741824
    · rw [Num.whole_lo h3] at h; cases h
    rw [Num.whole_hi h3] at h
    have hn : ((((((byt s x % 64 * 256 + byt s (x + 1)) * 256 + byt s (x + 2)) * 256 + byt s (x + 3)) * 256 + byt s (x + 4)) * 256 + byt s (x + 5)) * 256 + byt s (x + 6)) * 256 + byt s (x + 7) = n := (Prod.ext_iff.1 h).1
    have hp : (x : Int) + ((8 : Nat) : Int) = p := (Prod.ext_iff.1 (Prod.ext_iff.1 h).2).1
    refine key [byt s x, byt s (x + 1), byt s (x + 2), byt s (x + 3), byt s (x + 4), byt s (x + 5), byt s (x + 6), byt s (x + 7)] ?_ ?_ (by simp; omega) (by simp; omega)
    · rw [Num.bytesL_3 (by omega)]
      simp only [List.cons.injEq, and_true]
      refine ⟨by omega, by omega, by omega, by omega, by omega, by omega, by omega, by omega⟩
    · intro i hi
      match i, hi with
      | 0, _ => simp
      | 1, _ => simp
      | 2, _ => simp
      | 3, _ => simp
      | 4, _ => simp
      | 5, _ => simp
      | 6, _ => simp
      | 7, _ => simp
end Go.Proofs.Ytlohnhjfdmldnaa.Rec

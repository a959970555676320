/- What is put is got: the plain law, and rec.Get's contract at a record's bytes (own text). -/
import Derived.Test.YtlohnhjfdmldnaaRecGet
import Derived.Test.YtlohnhjfdmldnaaRecPut
import Derived.Test.YtlohnhjfdmldnaaNumPlain
namespace Go.Proofs.Ytlohnhjfdmldnaa.Rec
open Go.Proofs.Ytlohnhjfdmldnaa Go.RowKit Go.Proofs.Ytlohnhjfdmldnaa.Mem
open Go.Proofs.Ytlohnhjfdmldnaa.Num (putB putE textB)
set_option linter.unusedVariables false
set_option linter.unusedSimpArgs false
theorem rdN_put {s : ByteArray} (p q : ByteArray) (n a m : Int) (hs : s = p ++ putB n ++ q) (ha : a = p.size) (h0 : 0 ≤ n) (h1 : n < 4611686018427387904) (hm : n ≤ m) : rdN s a 0 m = (n, (((p ++ putB n).size : Nat) : Int), 0) := by
  subst hs ha
  have h := Num.get_put n p q h0 h1
  unfold rdN
  rw [h, if_neg (by simp), if_neg (by simp)]
  simp only []
  rw [if_neg (by omega), ByteArray.size_append]
  simp
theorem rdT_put {s : ByteArray} (p q t : ByteArray) (a m : Int) (hs : s = p ++ textB t ++ q) (ha : a = p.size) (h1 : (t.size : Int) < 4611686018427387904) (hm : (t.size : Int) ≤ m) : rdT s a 0 m = (t, (((p ++ textB t).size : Nat) : Int), 0) := by
  subst hs ha
  have h := Num.get_text t p q m h1
  rw [if_neg (by omega)] at h
  unfold rdT
  rw [h, if_neg (by simp), if_neg (by simp), ByteArray.size_append]
  simp
theorem mayR_all {k : ByteArray} {p n d f x : Int} {b : ByteArray} (h : mayR k p n d f x b = true) : k.size ≤ 250 ∧ p ≤ 281474976710655 ∧ x ≤ 281474976710655 ∧ b.size ≤ 1024 ∧ (d = 3 ∨ (f = 0 ∧ x = 0 ∧ b.size = 0)) := by
  have hs := mayR_size h
  unfold mayR at h
  refine ⟨hs.1, ?_⟩
  by_cases h0 : keyMay k = false
  · rw [if_pos h0] at h; cases h
  rw [if_neg h0] at h
  by_cases h1 : 281474976710655 < p
  · rw [if_pos h1] at h; cases h
  rw [if_neg h1] at h
  by_cases h2 : 63 < n
  · rw [if_pos h2] at h; cases h
  rw [if_neg h2] at h
  by_cases h3 : 281474976710655 < x
  · rw [if_pos h3] at h; cases h
  rw [if_neg h3] at h
  by_cases h4 : 1024 < b.size
  · rw [if_pos h4] at h; cases h
  rw [if_neg h4] at h
  refine ⟨by omega, by omega, hs.2, ?_⟩
  by_cases h5 : d = 3
  · exact Or.inl h5
  rw [if_neg h5] at h
  right
  by_cases h7 : f = 0
  · by_cases h8 : x = 0
    · by_cases h9 : b.size = 0
      · exact ⟨h7, h8, h9⟩
      · simp [h7, h8, h9] at h
    · simp [h7, h8] at h
  · simp [h7] at h
theorem get_back (A B k : ByteArray) (p l n d f x : Int) (b : ByteArray) (w : World) (hA : A.size ≤ 1000) (hB : B.size ≤ 1000) (hm : mayR k p n d f x b = true)
    (h0 : (0 ≤ p ∧ p ≤ 18446744073709551615) ∧ (0 ≤ l ∧ l ≤ 4294967295) ∧ (0 ≤ n ∧ n ≤ 255) ∧ (0 ≤ d ∧ d ≤ 255) ∧ (0 ≤ f ∧ f ≤ 4294967295) ∧ (0 ≤ x ∧ x ≤ 18446744073709551615)) :
    Calls Try.prog 26 #[.string (A ++ recB k p l n d f x b ++ B), .int .i64 (A.size : Int)] w fun e w' => e = .returned (recV k p l n d f x b (((A ++ recB k p l n d f x b).size : Nat) : Int) 0) ∧ Below w.heap.size w w' := by
  obtain ⟨m1, m2, m3, m4, m5⟩ := mayR_all hm
  obtain ⟨p0, l0, n0, d0, f0, x0⟩ := h0
  have z0 := accB_size k (lV p l n d f x) 6
  have z1 := accB_size k (lV p l n d f x) 4
  have z2 := textB_size b
  by_cases hd : d = 3
  · have hr : recB k p l n d f x b = textB k ++ putB p ++ putB l ++ putB n ++ putB d ++ putB f ++ putB x ++ textB b := by unfold recB; rw [if_pos hd]; rfl
    have hz : (recB k p l n d f x b).size ≤ 2000 := by unfold recB; rw [if_pos hd, ByteArray.size_append]; omega
    rw [hr] at hz ⊢
    refine get_vO _ _ w (by rw [ByteArray.size_append, ByteArray.size_append]; omega) k p l n d f x b _ 0 _ 0 _ 0 _ 0 _ 0 _ 0 _ 0 _ 0
      (rdT_put A (putB p ++ putB l ++ putB n ++ putB d ++ putB f ++ putB x ++ textB b ++ B) k _ _ (by simp only [ByteArray.append_assoc]) rfl (by omega) (by omega))
      (rdN_put (A ++ textB k) (putB l ++ putB n ++ putB d ++ putB f ++ putB x ++ textB b ++ B) p _ _ (by simp only [ByteArray.append_assoc]) rfl (by omega) (by omega) (by omega))
      (rdN_put (A ++ textB k ++ putB p) (putB n ++ putB d ++ putB f ++ putB x ++ textB b ++ B) l _ _ (by simp only [ByteArray.append_assoc]) rfl (by omega) (by omega) (by omega))
      (rdN_put (A ++ textB k ++ putB p ++ putB l) (putB d ++ putB f ++ putB x ++ textB b ++ B) n _ _ (by simp only [ByteArray.append_assoc]) rfl (by omega) (by omega) (by omega))
      (rdN_put (A ++ textB k ++ putB p ++ putB l ++ putB n) (putB f ++ putB x ++ textB b ++ B) d _ _ (by simp only [ByteArray.append_assoc]) rfl (by omega) (by omega) (by omega))
      (rdN_put (A ++ textB k ++ putB p ++ putB l ++ putB n ++ putB d) (putB x ++ textB b ++ B) f _ _ (by simp only [ByteArray.append_assoc]) rfl (by omega) (by omega) (by omega))
      (rdN_put (A ++ textB k ++ putB p ++ putB l ++ putB n ++ putB d ++ putB f) (textB b ++ B) x _ _ (by simp only [ByteArray.append_assoc]) rfl (by omega) (by omega) (by omega))
      ?_ hd rfl hm
    have h := rdT_put (A ++ textB k ++ putB p ++ putB l ++ putB n ++ putB d ++ putB f ++ putB x) B b ((A ++ textB k ++ putB p ++ putB l ++ putB n ++ putB d ++ putB f ++ putB x).size : Int) 1024 rfl rfl (by omega) (by omega)
    simp only [ByteArray.append_assoc] at h ⊢
    exact h
  · obtain ⟨e1, e2, e3⟩ := m5.resolve_left hd
    have eb : b = ⟨#[]⟩ := by
      apply ByteArray.ext
      exact Array.eq_empty_of_size_eq_zero e3
    subst e1 e2 eb
    have hr : recB k p l n d 0 0 ⟨#[]⟩ = textB k ++ putB p ++ putB l ++ putB n ++ putB d := by unfold recB; rw [if_neg hd]; rfl
    have hz : (recB k p l n d 0 0 ⟨#[]⟩).size ≤ 2000 := by unfold recB; rw [if_neg hd]; omega
    rw [hr] at hz ⊢
    refine get_mO _ _ w (by rw [ByteArray.size_append, ByteArray.size_append]; omega) k p l n d _ 0 _ 0 _ 0 _ 0 _ 0
      (rdT_put A (putB p ++ putB l ++ putB n ++ putB d ++ B) k _ _ (by simp only [ByteArray.append_assoc]) rfl (by omega) (by omega))
      (rdN_put (A ++ textB k) (putB l ++ putB n ++ putB d ++ B) p _ _ (by simp only [ByteArray.append_assoc]) rfl (by omega) (by omega) (by omega))
      (rdN_put (A ++ textB k ++ putB p) (putB n ++ putB d ++ B) l _ _ (by simp only [ByteArray.append_assoc]) rfl (by omega) (by omega) (by omega))
      (rdN_put (A ++ textB k ++ putB p ++ putB l) (putB d ++ B) n _ _ (by simp only [ByteArray.append_assoc]) rfl (by omega) (by omega) (by omega))
      ?_ hd rfl hm
    have h := rdN_put (A ++ textB k ++ putB p ++ putB l ++ putB n) B d ((A ++ textB k ++ putB p ++ putB l ++ putB n).size : Int) 255 rfl rfl (by omega) (by omega) (by omega)
    simp only [ByteArray.append_assoc] at h ⊢
    exact h
end Go.Proofs.Ytlohnhjfdmldnaa.Rec

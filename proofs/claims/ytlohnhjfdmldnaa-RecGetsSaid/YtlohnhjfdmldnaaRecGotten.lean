/- What is got is just what is put: records (own text). -/
import Derived.Test.YtlohnhjfdmldnaaRecConv
import Derived.Test.YtlohnhjfdmldnaaRecRefGet
namespace Go.Proofs.Ytlohnhjfdmldnaa.Rec
open Go.Proofs.Ytlohnhjfdmldnaa Go.RowKit Go.Proofs.Ytlohnhjfdmldnaa.Mem
open Go.Proofs.Ytlohnhjfdmldnaa.Num (putB putE textB getS textS)
set_option linter.unusedVariables false
set_option linter.unusedSimpArgs false
theorem join2 (s : ByteArray) {x y z : Nat} (h1 : x ≤ y) (h2 : y ≤ z) : s.extract x y ++ s.extract y z = s.extract x z := by
  rw [ByteArray.extract_append_extract, Nat.min_eq_left h1, Nat.max_eq_right h2]
/-- Bytes of s from a on that are B; the place behind them is p. -/
def Seg (s : ByteArray) (a p : Int) (B : ByteArray) : Prop := ∃ x y : Nat, a = x ∧ p = y ∧ x ≤ y ∧ y ≤ s.size ∧ s.extract x y = B
theorem Seg.cat {s : ByteArray} {a p q : Int} {A B : ByteArray} (h : Seg s a p A) (g : Seg s p q B) : Seg s a q (A ++ B) := by
  obtain ⟨x, y, rfl, rfl, h1, h2, h3⟩ := h
  obtain ⟨y', z, e, rfl, g1, g2, g3⟩ := g
  obtain rfl : y = y' := by omega
  exact ⟨x, z, rfl, rfl, by omega, g2, by rw [← h3, ← g3, join2 s h1 g1]⟩
theorem gotN {s : ByteArray} {a e m n p : Int} (h : rdN s a e m = (n, p, 0)) : e = 0 ∧ Seg s a p (putB n) ∧ n < 4611686018427387904 := by
  unfold rdN at h
  by_cases h0 : e = 0
  · rw [if_neg (by simpa using h0)] at h
    obtain ⟨v, q, f, hg⟩ : ∃ v q f, getS s a = (v, q, f) := ⟨_, _, _, rfl⟩
    rw [hg] at h
    simp only [] at h
    by_cases h1 : f = 0
    · subst h1
      rw [if_neg (by simp)] at h
      by_cases h2 : m < v
      · rw [if_pos h2] at h
        have := (Prod.ext_iff.1 (Prod.ext_iff.1 h).2).2
        simp at this
      · rw [if_neg h2] at h
        obtain ⟨rfl, rfl⟩ : v = n ∧ q = p := ⟨(Prod.ext_iff.1 h).1, (Prod.ext_iff.1 (Prod.ext_iff.1 h).2).1⟩
        obtain ⟨x, y, g1, g2, g3, g4, g5, g6, g7⟩ := got s a v q hg
        exact ⟨h0, ⟨x, y, g1, g2, g3, g4, g5⟩, g7⟩
    · rw [if_pos h1] at h
      have := (Prod.ext_iff.1 (Prod.ext_iff.1 h).2).2
      exact absurd this h1
  · rw [if_pos h0] at h
    have := (Prod.ext_iff.1 (Prod.ext_iff.1 h).2).2
    exact absurd this h0
theorem gotT {s : ByteArray} {a e m : Int} {t : ByteArray} {p : Int} (h : rdT s a e m = (t, p, 0)) : e = 0 ∧ Seg s a p (textB t) := by
  unfold rdT at h
  by_cases h0 : e = 0
  · rw [if_neg (by simpa using h0)] at h
    refine ⟨h0, ?_⟩
    obtain ⟨v, q, f, hg⟩ : ∃ v q f, getS s a = (v, q, f) := ⟨_, _, _, rfl⟩
    have hx : textS s a m = Num.textOf s m v q f := by rw [Num.textS_of, hg]
    rw [hx] at h
    unfold Num.textOf at h
    by_cases h1 : f = 0
    · subst h1
      rw [if_pos rfl] at h
      by_cases h2 : m < 0 ∨ v > m
      · rw [if_pos h2, if_pos (by simp)] at h
        have := (Prod.ext_iff.1 (Prod.ext_iff.1 h).2).2
        simp at this
      · rw [if_neg h2] at h
        by_cases h3 : v > s.size - q
        · rw [if_pos h3, if_pos (by simp)] at h
          have := (Prod.ext_iff.1 (Prod.ext_iff.1 h).2).2
          simp at this
        · rw [if_neg h3, if_neg (by simp)] at h
          have ht : s.extract q.toNat (q + v).toNat = t := (Prod.ext_iff.1 h).1
          have hp : q + v = p := (Prod.ext_iff.1 (Prod.ext_iff.1 h).2).1
          obtain ⟨x, y, rfl, rfl, g3, g4, g5, g6, g7⟩ := got s a v q hg
          obtain ⟨n, rfl⟩ : ∃ n : Nat, v = n := ⟨v.toNat, by omega⟩
          have e1 : ((y : Int) + (n : Int)).toNat = y + n := by omega
          rw [Int.toNat_natCast, e1] at ht
          have hz : t.size = n := by rw [← ht, ByteArray.size_extract]; omega
          refine ⟨x, y + n, rfl, by omega, by omega, by omega, ?_⟩
          unfold Num.textB
          rw [hz, ← g5, ← ht, join2 s g3 (by omega)]
    · rw [if_neg h1, if_pos (by simpa using h1)] at h
      have := (Prod.ext_iff.1 (Prod.ext_iff.1 h).2).2
      exact absurd this h1
  · rw [if_pos h0] at h
    have := (Prod.ext_iff.1 (Prod.ext_iff.1 h).2).2
    exact absurd this h0
def Bnd (p l n d f x : Int) : Prop := (0 ≤ p ∧ p ≤ 18446744073709551615) ∧ (0 ≤ l ∧ l ≤ 4294967295) ∧ (0 ≤ n ∧ n ≤ 255) ∧ (0 ≤ d ∧ d ≤ 255) ∧ (0 ≤ f ∧ f ≤ 4294967295) ∧ (0 ≤ x ∧ x ≤ 18446744073709551615)
theorem getT_cases (s : ByteArray) (a : Int) : (∃ e, ¬ e = 0 ∧ getT s a = bad e) ∨ (∃ (k : ByteArray) (p l n d f x : Int) (b : ByteArray) (v : Int), getT s a = recV k p l n d f x b v 0 ∧ Seg s a v (recB k p l n d f x b) ∧ mayR k p n d f x b = true ∧ Bnd p l n d f x) := by
  unfold getT getV'
  obtain ⟨t, a1, e1, g0⟩ : ∃ t a1 e1, rdT s a 0 250 = (t, a1, e1) := ⟨_, _, _, rfl⟩
  rw [g0]
  simp only []
  have q0 : rdN s a1 e1 18446744073709551615 = (val s a1 e1 0, (chain s a1 e1 1).1, (chain s a1 e1 1).2) := chain_eq s a1 e1 0
  have q1 : rdN s (chain s a1 e1 1).1 (chain s a1 e1 1).2 4294967295 = (val s a1 e1 1, (chain s a1 e1 2).1, (chain s a1 e1 2).2) := chain_eq s a1 e1 1
  have q2 : rdN s (chain s a1 e1 2).1 (chain s a1 e1 2).2 255 = (val s a1 e1 2, (chain s a1 e1 3).1, (chain s a1 e1 3).2) := chain_eq s a1 e1 2
  have q3 : rdN s (chain s a1 e1 3).1 (chain s a1 e1 3).2 255 = (val s a1 e1 3, (chain s a1 e1 4).1, (chain s a1 e1 4).2) := chain_eq s a1 e1 3
  have q4 : rdN s (chain s a1 e1 4).1 (chain s a1 e1 4).2 4294967295 = (val s a1 e1 4, (chain s a1 e1 5).1, (chain s a1 e1 5).2) := chain_eq s a1 e1 4
  have q5 : rdN s (chain s a1 e1 5).1 (chain s a1 e1 5).2 18446744073709551615 = (val s a1 e1 5, (chain s a1 e1 6).1, (chain s a1 e1 6).2) := chain_eq s a1 e1 5
  have r0 := val_range s a1 e1 0
  have r1 := val_range s a1 e1 1
  have r2 := val_range s a1 e1 2
  have r3 := val_range s a1 e1 3
  have r4 := val_range s a1 e1 4
  have r5 := val_range s a1 e1 5
  simp only [mo] at r0 r1 r2 r3 r4 r5
  generalize val s a1 e1 0 = v0 at *
  generalize val s a1 e1 1 = v1 at *
  generalize val s a1 e1 2 = v2 at *
  generalize val s a1 e1 3 = v3 at *
  generalize val s a1 e1 4 = v4 at *
  generalize val s a1 e1 5 = v5 at *
  generalize chain s a1 e1 1 = c1 at *
  generalize chain s a1 e1 2 = c2 at *
  generalize chain s a1 e1 3 = c3 at *
  generalize chain s a1 e1 4 = c4 at *
  generalize chain s a1 e1 5 = c5 at *
  generalize chain s a1 e1 6 = c6 at *
  by_cases hd : v3 = 3
  · rw [if_pos hd]
    obtain ⟨b, a8, e8, g7⟩ : ∃ b a8 e8, rdT s c6.1 c6.2 1024 = (b, a8, e8) := ⟨_, _, _, rfl⟩
    rw [g7]
    simp only []
    by_cases he : e8 = 0
    · rw [if_neg (fun h => h he)]
      cases hm : mayR t v0 v2 v3 v4 v5 b
      · rw [if_pos rfl]; exact Or.inl ⟨3, by decide, rfl⟩
      · rw [if_neg (by simp)]
        right
        subst he
        obtain ⟨z6, s7⟩ := gotT g7
        rw [z6] at q5
        obtain ⟨z5, s6, -⟩ := gotN q5
        rw [z5] at q4
        obtain ⟨z4, s5, -⟩ := gotN q4
        rw [z4] at q3
        obtain ⟨z3, s4, -⟩ := gotN q3
        rw [z3] at q2
        obtain ⟨z2, s3, -⟩ := gotN q2
        rw [z2] at q1
        obtain ⟨z1, s2, -⟩ := gotN q1
        rw [z1] at q0
        obtain ⟨z0, s1, -⟩ := gotN q0
        rw [z0] at g0
        obtain ⟨-, s0⟩ := gotT g0
        have hr : recB t v0 v1 v2 v3 v4 v5 b = textB t ++ putB v0 ++ putB v1 ++ putB v2 ++ putB v3 ++ putB v4 ++ putB v5 ++ textB b := by unfold recB; rw [if_pos hd]; rfl
        exact ⟨t, v0, v1, v2, v3, v4, v5, b, a8, rfl, by rw [hr]; exact (((((((s0.cat s1).cat s2).cat s3).cat s4).cat s5).cat s6).cat s7), hm, r0, r1, r2, r3, r4, r5⟩
    · rw [if_pos he]; exact Or.inl ⟨e8, he, rfl⟩
  · rw [if_neg hd]
    by_cases he : c4.2 = 0
    · rw [if_neg (fun h => h he)]
      cases hm : mayR t v0 v2 v3 0 0 ⟨#[]⟩
      · rw [if_pos rfl]; exact Or.inl ⟨3, by decide, rfl⟩
      · rw [if_neg (by simp)]
        right
        rw [he] at q3
        obtain ⟨z3, s4, -⟩ := gotN q3
        rw [z3] at q2
        obtain ⟨z2, s3, -⟩ := gotN q2
        rw [z2] at q1
        obtain ⟨z1, s2, -⟩ := gotN q1
        rw [z1] at q0
        obtain ⟨z0, s1, -⟩ := gotN q0
        rw [z0] at g0
        obtain ⟨-, s0⟩ := gotT g0
        have hr : recB t v0 v1 v2 v3 0 0 ⟨#[]⟩ = textB t ++ putB v0 ++ putB v1 ++ putB v2 ++ putB v3 := by unfold recB; rw [if_neg hd]; rfl
        exact ⟨t, v0, v1, v2, v3, 0, 0, ⟨#[]⟩, c4.1, rfl, by rw [hr]; exact ((((s0.cat s1).cat s2).cat s3).cat s4), hm, r0, r1, r2, r3, ⟨by decide, by decide⟩, ⟨by decide, by decide⟩⟩
    · rw [if_pos he]; exact Or.inl ⟨c4.2, he, rfl⟩
theorem rget_any (s : ByteArray) (a : Int) (w : World) (hs : s.size ≤ 900000) :
    Calls Try.prog 27 #[.string s, .int .i64 a] w fun e w' => e = .returned (getT s a) ∧ Below w.heap.size w w' := by
  obtain ⟨t, p, f, ht⟩ : ∃ t p f, textS s a 250 = (t, p, f) := ⟨_, _, _, rfl⟩
  by_cases hf : f = 0
  · subst hf
    have hr : rdT s a 0 250 = (t, p, 0) := by unfold rdT; rw [if_neg (by simp), ht, if_neg (by simp)]
    unfold getT
    rw [hr]
    exact rget_loop s a w hs t p ht
  · have hr : rdT s a 0 250 = (⟨#[]⟩, a, f) := by unfold rdT; rw [if_neg (by simp), ht, if_pos hf]
    unfold getT
    rw [hr]
    simp only []
    rw [get_err4 (k := 0) (t := ⟨#[]⟩) (by omega) (Or.inl rfl) hf]
    exact rget_err s a w hs t p f ht hf
end Go.Proofs.Ytlohnhjfdmldnaa.Rec

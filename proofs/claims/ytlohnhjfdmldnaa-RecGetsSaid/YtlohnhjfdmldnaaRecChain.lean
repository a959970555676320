/- What Get reads, as a plain function; the program's Get answers it (own text). -/
import Derived.Test.YtlohnhjfdmldnaaRecGet
namespace Go.Proofs.Ytlohnhjfdmldnaa.Rec
open Go.Proofs.Ytlohnhjfdmldnaa Go.RowKit Go.Proofs.Ytlohnhjfdmldnaa.Mem
open Go.Proofs.Ytlohnhjfdmldnaa.Num (getS textS)
set_option linter.unusedVariables false
set_option linter.unusedSimpArgs false
def mo : Nat → Int
  | 0 => 18446744073709551615
  | 1 => 4294967295
  | 2 => 255
  | 3 => 255
  | 4 => 4294967295
  | _ => 18446744073709551615
/-- The place and the error behind k numbers. -/
def chain (s : ByteArray) (a e : Int) : Nat → Int × Int
  | 0 => (a, e)
  | k + 1 => ((rdN s (chain s a e k).1 (chain s a e k).2 (mo k)).2.1, (rdN s (chain s a e k).1 (chain s a e k).2 (mo k)).2.2)
/-- Number k. -/
def val (s : ByteArray) (a e : Int) (k : Nat) : Int := (rdN s (chain s a e k).1 (chain s a e k).2 (mo k)).1
theorem chain_eq (s : ByteArray) (a e : Int) (k : Nat) : rdN s (chain s a e k).1 (chain s a e k).2 (mo k) = (val s a e k, (chain s a e (k + 1)).1, (chain s a e (k + 1)).2) := rfl
def bad (e : Int) : Value := recV ⟨#[]⟩ 0 0 0 0 0 0 ⟨#[]⟩ 0 e
def getV' (s : ByteArray) (t : ByteArray) (a e : Int) : Value :=
  if val s a e 3 = 3 then
    (if ¬ (rdT s (chain s a e 6).1 (chain s a e 6).2 1024).2.2 = 0 then bad (rdT s (chain s a e 6).1 (chain s a e 6).2 1024).2.2
     else if mayR t (val s a e 0) (val s a e 2) (val s a e 3) (val s a e 4) (val s a e 5) (rdT s (chain s a e 6).1 (chain s a e 6).2 1024).1 = false then bad 3
     else recV t (val s a e 0) (val s a e 1) (val s a e 2) (val s a e 3) (val s a e 4) (val s a e 5) (rdT s (chain s a e 6).1 (chain s a e 6).2 1024).1 (rdT s (chain s a e 6).1 (chain s a e 6).2 1024).2.1 0)
  else
    (if ¬ (chain s a e 4).2 = 0 then bad (chain s a e 4).2
     else if mayR t (val s a e 0) (val s a e 2) (val s a e 3) 0 0 ⟨#[]⟩ = false then bad 3
     else recV t (val s a e 0) (val s a e 1) (val s a e 2) (val s a e 3) 0 0 ⟨#[]⟩ (chain s a e 4).1 0)
/-- What Get answers. -/
def getT (s : ByteArray) (a : Int) : Value := getV' s (rdT s a 0 250).1 (rdT s a 0 250).2.1 (rdT s a 0 250).2.2
theorem pget_any (s : ByteArray) (a : Int) (w : World) (hs : s.size ≤ 900000) :
    Calls Try.prog 26 #[.string s, .int .i64 a] w fun e w' => e = .returned (getT s a) ∧ Below w.heap.size w w' := by
  unfold getT getV'
  obtain ⟨t, a1, e1, g0⟩ : ∃ t a1 e1, rdT s a 0 250 = (t, a1, e1) := ⟨_, _, _, rfl⟩
  rw [g0]
  simp only []
  have q0 : rdN s a1 e1 18446744073709551615 = (val s a1 e1 0, (chain s a1 e1 1).1, (chain s a1 e1 1).2) := chain_eq s a1 e1 0
  have q1 : rdN s (chain s a1 e1 1).1 (chain s a1 e1 1).2 4294967295 = (val s a1 e1 1, (chain s a1 e1 2).1, (chain s a1 e1 2).2) := chain_eq s a1 e1 1
  have q2 : rdN s (chain s a1 e1 2).1 (chain s a1 e1 2).2 255 = (val s a1 e1 2, (chain s a1 e1 3).1, (chain s a1 e1 3).2) := chain_eq s a1 e1 2
  have q3 : rdN s (chain s a1 e1 3).1 (chain s a1 e1 3).2 255 = (val s a1 e1 3, (chain s a1 e1 4).1, (chain s a1 e1 4).2) := chain_eq s a1 e1 3
  have q4 : rdN s (chain s a1 e1 4).1 (chain s a1 e1 4).2 4294967295 = (val s a1 e1 4, (chain s a1 e1 5).1, (chain s a1 e1 5).2) := chain_eq s a1 e1 4
  have q5 : rdN s (chain s a1 e1 5).1 (chain s a1 e1 5).2 18446744073709551615 = (val s a1 e1 5, (chain s a1 e1 6).1, (chain s a1 e1 6).2) := chain_eq s a1 e1 5
  generalize val s a1 e1 0 = v0 at *
  generalize val s a1 e1 1 = v1 at *
  generalize val s a1 e1 2 = v2 at *
  generalize val s a1 e1 3 = v3 at *
  generalize val s a1 e1 4 = v4 at *
  generalize val s a1 e1 5 = v5 at *
  generalize chain s a1 e1 1 = c1 at *
  generalize chain s a1 e1 2 = c2 at *
  generalize chain s a1 e1 3 = c3 at *
  generalize chain s a1 e1 4 = c4 at *
  generalize chain s a1 e1 5 = c5 at *
  generalize chain s a1 e1 6 = c6 at *
  by_cases hd : v3 = 3
  · rw [if_pos hd]
    obtain ⟨b, a8, e8, g7⟩ : ∃ b a8 e8, rdT s c6.1 c6.2 1024 = (b, a8, e8) := ⟨_, _, _, rfl⟩
    rw [g7]
    simp only []
    by_cases he : e8 = 0
    · rw [if_neg (fun h => h he)]
      cases hm : mayR t v0 v2 v3 v4 v5 b
      · rw [if_pos rfl]
        exact get_vF s a w hs t v0 v1 v2 v3 v4 v5 b a1 e1 c1.1 c1.2 c2.1 c2.2 c3.1 c3.2 c4.1 c4.2 c5.1 c5.2 c6.1 c6.2 a8 e8 g0 q0 q1 q2 q3 q4 q5 g7 hd he hm
      · rw [if_neg (by simp)]
        exact get_vO s a w hs t v0 v1 v2 v3 v4 v5 b a1 e1 c1.1 c1.2 c2.1 c2.2 c3.1 c3.2 c4.1 c4.2 c5.1 c5.2 c6.1 c6.2 a8 e8 g0 q0 q1 q2 q3 q4 q5 g7 hd he hm
    · rw [if_pos he]
      exact get_vE s a w hs t v0 v1 v2 v3 v4 v5 b a1 e1 c1.1 c1.2 c2.1 c2.2 c3.1 c3.2 c4.1 c4.2 c5.1 c5.2 c6.1 c6.2 a8 e8 g0 q0 q1 q2 q3 q4 q5 g7 hd he
  · rw [if_neg hd]
    by_cases he : c4.2 = 0
    · rw [if_neg (fun h => h he)]
      cases hm : mayR t v0 v2 v3 0 0 ⟨#[]⟩
      · rw [if_pos rfl]
        exact get_mF s a w hs t v0 v1 v2 v3 a1 e1 c1.1 c1.2 c2.1 c2.2 c3.1 c3.2 c4.1 c4.2 g0 q0 q1 q2 q3 hd he hm
      · rw [if_neg (by simp)]
        exact get_mO s a w hs t v0 v1 v2 v3 a1 e1 c1.1 c1.2 c2.1 c2.2 c3.1 c3.2 c4.1 c4.2 g0 q0 q1 q2 q3 hd he hm
    · rw [if_pos he]
      exact get_mE s a w hs t v0 v1 v2 v3 a1 e1 c1.1 c1.2 c2.1 c2.2 c3.1 c3.2 c4.1 c4.2 g0 q0 q1 q2 q3 hd he
theorem chain_stuck {s : ByteArray} {a e f : Int} {k : Nat} (h : (chain s a e k).2 = f) (hf : ¬ f = 0) : (chain s a e (k + 1)).2 = f ∧ val s a e k = 0 := by
  have e1 : rdN s (chain s a e k).1 (chain s a e k).2 (mo k) = (0, (chain s a e k).1, (chain s a e k).2) := by unfold rdN; rw [h, if_pos hf]
  constructor
  · show (rdN s (chain s a e k).1 (chain s a e k).2 (mo k)).2.2 = f
    rw [e1]; exact h
  · unfold val; rw [e1]
theorem chain_stays {s : ByteArray} {a e f : Int} {k : Nat} (h : (chain s a e k).2 = f) (hf : ¬ f = 0) : ∀ j, (chain s a e (k + j)).2 = f ∧ val s a e (k + j) = 0
  | 0 => ⟨h, (chain_stuck h hf).2⟩
  | j + 1 => by
    have := chain_stays h hf j
    have h2 := (chain_stuck this.1 hf).1
    exact ⟨h2, (chain_stuck (k := k + (j + 1)) h2 hf).2⟩
/-- An error among the first four numbers is the whole's. -/
theorem get_err4 {s t : ByteArray} {a e f : Int} {k : Nat} (hk : k ≤ 3) (h : (chain s a e k).2 = f ∨ (chain s a e (k + 1)).2 = f) (hf : ¬ f = 0) : getV' s t a e = bad f := by
  have h1 : (chain s a e (k + 1)).2 = f := h.elim (fun h => (chain_stuck h hf).1) id
  have h4 : (chain s a e 4).2 = f := by
    have := (chain_stays h1 hf (3 - k)).1
    rwa [show k + 1 + (3 - k) = 4 by omega] at this
  unfold getV'
  by_cases hd : val s a e 3 = 3
  · exfalso
    rcases h with h | h
    · have := (chain_stays h hf (3 - k)).2
      rw [show k + (3 - k) = 3 by omega] at this
      omega
    · by_cases hk3 : k = 3
      · subst hk3
        -- number 3 itself failed: it is 0
        have : val s a e 3 = 0 := by
          unfold val
          have hc : (rdN s (chain s a e 3).1 (chain s a e 3).2 (mo 3)).2.2 = f := h
          unfold rdN at hc ⊢
          by_cases q1 : ¬ (chain s a e 3).2 = 0
          · rw [if_pos q1]
          · rw [if_neg q1] at hc ⊢
            by_cases q2 : ¬ (getS s (chain s a e 3).1).2.2 = 0
            · rw [if_pos q2]
            · rw [if_neg q2] at hc ⊢
              by_cases q3 : mo 3 < (getS s (chain s a e 3).1).1
              · rw [if_pos q3]
              · rw [if_neg q3] at hc; exact absurd hc.symm hf
        omega
      · have := (chain_stays h hf (3 - (k + 1))).2
        rw [show k + 1 + (3 - (k + 1)) = 3 by omega] at this
        omega
  · rw [if_neg hd, h4, if_pos hf]
/-- An error among the last two is the whole's, of a value. -/
theorem get_err6 {s t : ByteArray} {a e f : Int} {k : Nat} (hk : k ≤ 6) (hd : val s a e 3 = 3) (h : (chain s a e k).2 = f) (hf : ¬ f = 0) : getV' s t a e = bad f := by
  have h6 : (chain s a e 6).2 = f := by
    have := (chain_stays h hf (6 - k)).1
    rwa [show k + (6 - k) = 6 by omega] at this
  have hr : rdT s (chain s a e 6).1 (chain s a e 6).2 1024 = (⟨#[]⟩, (chain s a e 6).1, f) := by unfold rdT; rw [h6, if_pos hf]
  unfold getV'
  rw [if_pos hd, hr]
  exact if_pos hf
end Go.Proofs.Ytlohnhjfdmldnaa.Rec

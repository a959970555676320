/- The reference's set is the program's (own text). -/
import Derived.Test.YtpfggidfcbgaiaaDoorRefWords
namespace Go.Proofs.YtpfggidfcbgaiaaDoor.Cmd
open Go.RowKit Go.Proofs.YtpfggidfcbgaiaaDoorW.PrintWords Go.Proofs.YtpfggidfcbgaiaaDoorW.PrintLast Go.Proofs.YtpfggidfcbgaiaaDoorW.PrintMore Go.Proofs.YtpfggidfcbgaiaaDoor.PCmd Go.Proofs.YtpfggidfcbgaiaaDoor.Split
set_option linter.unusedVariables false
set_option linter.unusedSimpArgs false
theorem r1_ (l : List ByteArray) : rdOf ByteArray.empty l 1 = wd l 1 := rd_wd l 1
theorem r2_ (l : List ByteArray) : rdOf ByteArray.empty l 2 = wd l 2 := rd_wd l 2
theorem r3_ (l : List ByteArray) : rdOf ByteArray.empty l 3 = wd l 3 := rd_wd l 3
theorem r4_ (l : List ByteArray) : rdOf ByteArray.empty l 4 = wd l 4 := rd_wd l 4
theorem rset_j2 (k : Nat) (hk : 13 ≤ k) (l : List ByteArray) (h3 : 3 < l.length) (hs : ∀ x, x ∈ l → x.size ≤ 1000000) (d : Int) (b : Bool) (hq : b = false → amtB (wd l 2) = true) :
    tattlerref07_set.j2 (k + 1) l (l.length : Int) d b 8 [] 0 0 ⟨#[]⟩ false fmtB = some (if b = false ∧ momB (wd l 3) = true then (if 1024 < d then badA bigB d else (2, [wd l 1], amtV (wd l 2), momV (wd l 3), ⟨#[]⟩, decide (l.length = 6), ⟨#[]⟩, d)) else badA fmtB d) := by
  rw [tattlerref07_set.j2]
  cases b with
  | true => rw [if_pos rfl, if_neg (by simp)]; rfl
  | false =>
    have hb2 := hq rfl
    rw [if_neg (by simp), if_pos (by omega), r3_ l]
    obtain ⟨t1, t2⟩ := refTime_is (wd l 3) k hk (hs _ (wd_mem 3 h3))
    rw [t1, Option.bind_some]
    cases hm : momB (wd l 3) with
    | false => rw [if_neg (by simp), if_neg (by simp)]; rfl
    | true =>
      simp only [if_true]
      by_cases hbig : d > 1024
      · rw [if_pos hbig, rbad_b, Option.bind_some, if_pos ⟨trivial, trivial⟩, if_pos (by omega)]; rfl
      · rw [if_neg hbig, if_pos (by omega), if_pos (by omega), if_pos ⟨trivial, trivial⟩, if_neg (by omega), r2_ l, r1_ l, ramt_is _ k (by omega), hb2, if_pos rfl, Option.bind_some]
        have hf := amt_facts hb2
        have e1 : amtV (wd l 2) % 4294967296 = amtV (wd l 2) := by omega
        have e2 : ((l.length : Int) == 6) = decide (l.length = 6) := by rw [Bool.eq_iff_iff]; simp; omega
        rw [e1, e2]
theorem rset_is (l : List ByteArray) (last : Bool) (hl : l.length = 6 → last = decide (wd l 5 = noreplyB)) (hs : ∀ x, x ∈ l → x.size ≤ 1000000) : tattlerref07_set.f 256 l last = some (setP l) := by
  have hD : ∀ (k : Nat) (b : Bool), 255 ≤ k → b = decide (l.length = 5 ∨ l.length = 6) → tattlerref07_set.j0 (k + 1) l last (l.length : Int) (-1) b 8 [] 0 0 ⟨#[]⟩ false fmtB = tattlerref07_set.j1 k l last (l.length : Int) (dataP l) 8 [] 0 0 ⟨#[]⟩ false fmtB := by
    intro k b hk hb
    rw [tattlerref07_set.j0]
    unfold dataP
    by_cases h56 : l.length = 5 ∨ l.length = 6
    · rw [decide_eq_true h56] at hb
      rw [hb, if_pos rfl, if_pos (by omega), r4_ l, ramt_is _ k (by omega), Option.bind_some, if_pos h56]
    · rw [decide_eq_false h56] at hb
      rw [hb, if_neg (by simp), if_neg h56]
  have hge : -1 ≤ dataP l := by
    unfold dataP
    split
    · split
      · rename_i h; have := amt_facts h; omega
      · omega
    · omega
  have h1 : tattlerref07_set.j1 255 l last (l.length : Int) (dataP l) 8 [] 0 0 ⟨#[]⟩ false fmtB = some (setP l) := by
    rw [show (255 : Nat) = 254 + 1 from rfl, tattlerref07_set.j1]
    by_cases hd : dataP l < 0
    · rw [if_pos hd, show (254 : Nat) = 253 + 1 from rfl, tattlerref07_set.j2, if_pos rfl]
      have e : dataP l = -1 := by omega
      unfold setP
      rw [if_pos hd, e]; rfl
    · have h56 : l.length = 5 ∨ l.length = 6 := by
        by_cases h : l.length = 5 ∨ l.length = 6
        · exact h
        · exact absurd (show dataP l < 0 by unfold dataP; rw [if_neg h]; omega) hd
      have hJ : ∀ (q : Bool), q = true → (if 1 < (l.length : Int) then ((tattlerref06_KeyMay.f 254 (rdOf ByteArray.empty l 1)).bind fun t => (if t = true then (if 2 < (l.length : Int) then ((tattlerref07_Amount.f 254 (rdOf ByteArray.empty l 2)).bind fun t2 => (tattlerref07_set.j2 254 l (l.length : Int) (dataP l) (decide (t2 < 0)) 8 [] 0 0 ⟨#[]⟩ false fmtB)) else none) else (tattlerref07_set.j2 254 l (l.length : Int) (dataP l) true 8 [] 0 0 ⟨#[]⟩ false fmtB))) else none) = some (if amtB (wd l 2) = true ∧ momB (wd l 3) = true ∧ keyP (wd l 1) = true then (if 1024 < dataP l then badA bigB (dataP l) else (2, [wd l 1], amtV (wd l 2), momV (wd l 3), ⟨#[]⟩, decide (l.length = 6), ⟨#[]⟩, dataP l)) else badA fmtB (dataP l)) := by
        intro q _
        rw [if_pos (by omega), r1_ l, refKey_is _ 254 (by omega), Option.bind_some]
        cases hk : keyP (wd l 1) with
        | false => rw [if_neg (by simp), show (254 : Nat) = 253 + 1 from rfl, rset_j2 253 (by omega) l (by omega) hs _ true (by simp), if_neg (by simp), if_neg (by simp)]
        | true =>
          rw [if_pos rfl, if_pos (by omega), r2_ l, ramt_is _ 254 (by omega), Option.bind_some]
          cases ha : amtB (wd l 2) with
          | false =>
            rw [if_neg (by simp), decide_eq_true (by omega), show (254 : Nat) = 253 + 1 from rfl, rset_j2 253 (by omega) l (by omega) hs _ true (by simp), if_neg (by simp), if_neg (by simp)]
          | true =>
            have := amt_facts ha
            rw [if_pos rfl, decide_eq_false (by omega), show (254 : Nat) = 253 + 1 from rfl, rset_j2 253 (by omega) l (by omega) hs _ false (fun _ => ha)]
            cases hm : momB (wd l 3) with
            | false => rw [if_neg (by simp), if_neg (by simp)]
            | true => simp
      rw [if_neg hd]
      by_cases h6 : (l.length : Int) = 6
      · have hlst := hl (by omega)
        rw [if_pos h6, hlst]
        by_cases hnr : wd l 5 = noreplyB
        · have e : setP l = if amtB (wd l 2) = true ∧ momB (wd l 3) = true ∧ keyP (wd l 1) = true then (if 1024 < dataP l then badA bigB (dataP l) else (2, [wd l 1], amtV (wd l 2), momV (wd l 3), ⟨#[]⟩, decide (l.length = 6), ⟨#[]⟩, dataP l)) else badA fmtB (dataP l) := by
            unfold setP
            rw [if_neg hd, if_neg (fun h => h.2 hnr)]
          rw [decide_eq_true hnr, if_pos rfl, e]
          exact hJ true rfl
        · have e : setP l = badA fmtB (dataP l) := by
            unfold setP
            rw [if_neg hd, if_pos ⟨by omega, hnr⟩]
          rw [decide_eq_false hnr, if_neg (by simp), show (254 : Nat) = 253 + 1 from rfl, rset_j2 253 (by omega) l (by omega) hs _ true (by simp), if_neg (by simp), e]
      · have e : setP l = if amtB (wd l 2) = true ∧ momB (wd l 3) = true ∧ keyP (wd l 1) = true then (if 1024 < dataP l then badA bigB (dataP l) else (2, [wd l 1], amtV (wd l 2), momV (wd l 3), ⟨#[]⟩, decide (l.length = 6), ⟨#[]⟩, dataP l)) else badA fmtB (dataP l) := by
          unfold setP
          rw [if_neg hd, if_neg (fun h => h6 (by omega))]
        rw [if_neg h6, e]
        exact hJ true rfl
  unfold tattlerref07_set.f
  rw [rbad_f, Option.bind_some]
  by_cases h5 : (l.length : Int) = 5
  · rw [if_pos h5]
    exact (hD 255 true (by omega) (by rw [decide_eq_true (by omega)])).trans h1
  · rw [if_neg h5]
    exact (hD 255 _ (by omega) (by rw [Bool.eq_iff_iff]; simp; omega)).trans h1
theorem rset_c (l : List ByteArray) (n : Nat) (hn : l.length = n) (last : Bool) (hl : n = 6 → last = decide (wd l 5 = noreplyB)) (hs : ∀ x, x ∈ l → x.size ≤ 1000000) (A : Option Addr) (c : Nat) (w : World) (hC : Kd.C Kd.string w A n l) (hc : n ≤ c) :
    Calls Tryd.prog 23 #[.slice A n c, .bool last] w (TellsC (setP l) w.heap.size w) := by
  subst hn
  refine (tattlerref07_set.calls 256 A c l last _ _ _ _ _ _ _ _ w hC hc (rset_is l last hl hs)).mono ?_
  rintro e w' ⟨v, rfl, hR, hb⟩
  exact ⟨v, rfl, Kd.Q_of_R hR, hb⟩
end Go.Proofs.YtpfggidfcbgaiaaDoor.Cmd

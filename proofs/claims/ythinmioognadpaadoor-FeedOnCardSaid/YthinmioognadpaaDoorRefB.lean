/- Merged of RefWords, RefSet, RefParH (own text; wip/tools/merge.py). -/
import Derived.Test.YthinmioognadpaaDoorCmdC
import Derived.Test.YthinmioognadpaaDoorPCmdx4
import Derived.Test.YthinmioognadpaaDoorRefBad
/- The reference's words, times and sets: what its printed functions compute (own text). -/
namespace Go.Proofs.YthinmioognadpaaDoor.Cmd
open Go.RowKit Go.Proofs.YthinmioognadpaaDoorW.PrintWords Go.Proofs.YthinmioognadpaaDoorW.PrintLast Go.Proofs.YthinmioognadpaaDoorW.PrintMore Go.Proofs.YthinmioognadpaaDoor.PCmd Go.Proofs.YthinmioognadpaaDoor.Split
set_option linter.unusedVariables false
set_option linter.unusedSimpArgs false
theorem wordsB_map' (s : ByteArray) : wordsB s = (wordsL s.data.toList).map toB := by
  unfold wordsB splitB wordsL
  rw [List.filter_map]
  congr 1
/-- The text from one place to another one. -/
def seg (s : ByteArray) (i j : Nat) : List UInt8 := (s.data.toList.take j).drop i
theorem seg_snoc (s : ByteArray) (i j : Nat) (h1 : i ≤ j) (h2 : j < s.size) : ∃ c : UInt8, s.data.toList.drop j = c :: s.data.toList.drop (j + 1) ∧ bt s (j : Int) = (c.toNat : Int) ∧ seg s i (j + 1) = seg s i j ++ [c] := by
  obtain ⟨c, hc, hb⟩ := drop_bt s j h2
  refine ⟨c, hc, hb, ?_⟩
  have hl : j < s.data.toList.length := by rw [size_list]; exact h2
  have e : s.data.toList[j] = c := by
    have := List.drop_eq_getElem_cons hl
    rw [hc] at this
    exact (List.cons.inj this).1.symm
  unfold seg
  rw [List.take_succ_eq_append_getElem hl, List.drop_append_of_le_length (by rw [List.length_take]; omega), e]
theorem refWords_l0 (s : ByteArray) (hs : s.size ≤ 1000000) : ∀ (d i fr k : Nat) (out : List ByteArray), s.size - i = d → i ≤ s.size → fr ≤ i → 2 * d + 4 < k → out.length ≤ i → 32 ∉ seg s fr i →
    tattlerref07_Words.l0 k s out (fr : Int) (i : Int) = some (out ++ (wordsL (seg s fr i ++ s.data.toList.drop i)).map toB) := by
  have hext : ∀ fr i, s.extract fr i = toB (seg s fr i) := fun fr i => ext_list (by rw [extract_data]; simp [seg, toB])
  have hj : ∀ (k : Nat) (out : List ByteArray) (fr i : Nat) (b : Bool), fr ≤ i → i ≤ s.size → out.length ≤ i → tattlerref07_Words.j1 (k + 1) s out (fr : Int) (i : Int) b = if b = true then tattlerref07_Words.l0 k s (if fr < i then out ++ [toB (seg s fr i)] else out) ((i + 1 : Nat) : Int) ((i + 1 : Nat) : Int) else tattlerref07_Words.l0 k s out (fr : Int) ((i + 1 : Nat) : Int) := by
    intro k out fr i b h1 h2 h3
    have e2 : wrap64 ((i : Int) + 1) = ((i + 1 : Nat) : Int) := by rw [w64 (by omega) (by omega)]; omega
    simp only [tattlerref07_Words.j1]
    rw [e2]
    clear e2
    cases b with
    | true =>
      simp only [if_true]
      by_cases h : fr < i
      · rw [if_pos (by omega), if_pos (by omega), if_pos (by omega), if_pos (by omega), if_pos (by omega), if_pos h, Int.toNat_natCast, Int.toNat_natCast, hext]
      · rw [if_neg (by omega), if_neg h]
    | false => simp
  intro d
  induction d with
  | zero =>
    intro i fr k out hd hi hf hk ho h32
    obtain ⟨k, rfl⟩ : ∃ m, k = m + 3 := ⟨k - 3, by omega⟩
    obtain rfl : i = s.size := by omega
    rw [tattlerref07_Words.l0, if_pos (by omega), if_pos rfl, hj _ _ _ _ _ hf hi ho, if_pos rfl, tattlerref07_Words.l0, if_neg (by omega), drop_end, List.append_nil, wordsL_free _ h32]
    have hlen : (seg s fr s.size).length = s.size - fr := by unfold seg; rw [List.length_drop, List.length_take, size_list]; omega
    by_cases h : fr < s.size
    · rw [if_pos h, if_neg (by intro e; rw [e] at hlen; simp at hlen; omega)]; rfl
    · rw [if_neg h, if_pos (List.eq_nil_of_length_eq_zero (by omega))]; simp
  | succ d ih =>
    intro i fr k out hd hi hf hk ho h32
    obtain ⟨k, rfl⟩ : ∃ m, k = m + 2 := ⟨k - 2, by omega⟩
    obtain ⟨c, hc, hb, hsn⟩ := seg_snoc s fr i hf (by omega)
    rw [tattlerref07_Words.l0, if_pos (by omega), if_neg (by omega), if_pos (by omega), if_pos (by omega), hb, hj _ _ _ _ _ hf hi ho, hc]
    by_cases h1 : c = 32
    · subst h1
      rw [if_pos (by decide), wordsL_append, wordsL_free _ h32]
      have hlen : (seg s fr i).length = i - fr := by unfold seg; rw [List.length_drop, List.length_take, size_list]; omega
      have e0 : seg s (i + 1) (i + 1) = [] := by unfold seg; rw [List.drop_of_length_le (by rw [List.length_take]; omega)]
      by_cases h : fr < i
      · rw [if_pos h, if_neg (by intro e; rw [e] at hlen; simp at hlen; omega), ih (i + 1) (i + 1) k _ (by omega) (by omega) (by omega) (by omega) (by rw [List.length_append]; simp; omega) (by rw [e0]; simp), e0]
        simp
      · rw [if_neg h, if_pos (List.eq_nil_of_length_eq_zero (by omega)), ih (i + 1) (i + 1) k _ (by omega) (by omega) (by omega) (by omega) (by omega) (by rw [e0]; simp), e0]
        simp
    · have h2 : ((c.toNat : Int) == 32) = false := by
        rw [beq_eq_false_iff_ne]
        intro e
        exact h1 (UInt8.toNat_inj.1 (show c.toNat = (32 : UInt8).toNat from Int.ofNat.inj e))
      rw [h2, if_neg (by simp), ih (i + 1) fr k out (by omega) (by omega) (by omega) (by omega) (by omega) (by rw [hsn]; intro hm; rcases List.mem_append.1 hm with h3 | h3; exact h32 h3; exact h1 (List.mem_singleton.1 h3).symm), hsn]
      simp
theorem refWords_is (s : ByteArray) (hs : s.size ≤ 1000000) : tattlerref07_Words.f (2 * s.size + 5) s = some (wordsB s) := by
  unfold tattlerref07_Words.f
  have h := refWords_l0 s hs s.size 0 0 (2 * s.size + 5) [] rfl (by omega) (by omega) (by omega) (by simp) (by simp [seg])
  have e : seg s 0 0 = [] := by simp [seg]
  rw [e, List.nil_append, List.nil_append, List.drop_zero, ← wordsB_map'] at h
  exact h
theorem refWords_c (s : ByteArray) (hs : s.size ≤ 1000000) (n : Nat) (hn : (wordsB s).length = n) (h0 : 0 < n) (w : World) : Calls Tryd.prog 15 #[.string s] w fun e w' => ∃ g cap, e = .returned (.slice (some ⟨g, 0, none⟩) n cap) ∧ n ≤ cap ∧ w.heap.size ≤ g ∧ g < w'.heap.size ∧ Hid (∀ i x, (wordsB s)[i]? = some x → w'.cell? ⟨g, i, none⟩ = some (.string x)) ∧ Hid (Kd.R Kd.string 9 w' w.heap.size (fun _ => True) (.slice (some ⟨g, 0, none⟩) n cap) (wordsB s)) ∧ Below w.heap.size w w' := by
  refine (tattlerref07_Words.calls (2 * s.size + 5) s (wordsB s) w (refWords_is s hs)).mono ?_
  rintro e w' ⟨v, rfl, hR, hb⟩
  subst hn
  obtain ⟨g, cap, rfl, hg, hlt, _⟩ := Kd.R_form hR h0
  refine ⟨g, cap, rfl, (Kd.R_reads' hR).2.1, hg, hlt, Lib.hid (fun i x hx => ?_), Lib.hid hR, hb⟩
  have hi : i < (wordsB s).length := by
    rcases Nat.lt_or_ge i (wordsB s).length with h | h
    · exact h
    · rw [List.getElem?_eq_none h] at hx; cases hx
  obtain ⟨hc, _⟩ := Kd.R_celln (⟨#[]⟩ : ByteArray) hR (i : Int) (by omega) (by omega)
  rw [Int.toNat_natCast] at hc
  rw [hc]
  unfold rdOf
  rw [Int.toNat_natCast, List.getD_eq_getElem?_getD, hx]; rfl
theorem refWords_nil (s : ByteArray) (hs : s.size ≤ 1000000) (hn : wordsB s = []) (w : World) : Calls Tryd.prog 15 #[.string s] w fun e w' => ∃ A cap, e = .returned (.slice A 0 cap) ∧ Below w.heap.size w w' := by
  refine (tattlerref07_Words.calls (2 * s.size + 5) s (wordsB s) w (refWords_is s hs)).mono ?_
  rintro e w' ⟨v, rfl, hR, hb⟩
  rw [hn] at hR
  obtain ⟨A, c, rfl, _, _⟩ := Kd.R_reads hR
  exact ⟨A, c, rfl, hb⟩
theorem refBad_c (s r : ByteArray) (h : tattlerref07_Bad.f s = some (8, [], 0, 0, ⟨#[]⟩, false, r)) (w : World) : Calls Tryd.prog 16 #[.string s] w fun e w' => e = .returned (.agg #[.int .i64 8, .slice none 0 0, .int .u32 0, .int .i64 0, .string ⟨#[]⟩, .bool false, .string r]) ∧ Below w.heap.size w w' :=
  refBad s _ _ _ _ _ _ _ w h
theorem rbad_fmt (w : World) : Calls Tryd.prog 16 #[.string ⟨#[67, 76, 73, 69, 78, 84, 95, 69, 82, 82, 79, 82, 32, 98, 97, 100, 32, 99, 111, 109, 109, 97, 110, 100, 32, 108, 105, 110, 101, 32, 102, 111, 114, 109, 97, 116]⟩] w fun e w' => e = .returned (.agg #[.int .i64 8, .slice none 0 0, .int .u32 0, .int .i64 0, .string ⟨#[]⟩, .bool false, .string fmtB]) ∧ Below w.heap.size w w' := refBad_c _ _ (by kernel_rfl) w
theorem rbad_big (w : World) : Calls Tryd.prog 16 #[.string ⟨#[83, 69, 82, 86, 69, 82, 95, 69, 82, 82, 79, 82, 32, 111, 98, 106, 101, 99, 116, 32, 116, 111, 111, 32, 108, 97, 114, 103, 101, 32, 102, 111, 114, 32, 99, 97, 99, 104, 101]⟩] w fun e w' => e = .returned (.agg #[.int .i64 8, .slice none 0 0, .int .u32 0, .int .i64 0, .string ⟨#[]⟩, .bool false, .string bigB]) ∧ Below w.heap.size w w' := refBad_c _ _ (by kernel_rfl) w
theorem rbad_err (w : World) : Calls Tryd.prog 16 #[.string ⟨#[69, 82, 82, 79, 82]⟩] w fun e w' => e = .returned (.agg #[.int .i64 8, .slice none 0 0, .int .u32 0, .int .i64 0, .string ⟨#[]⟩, .bool false, .string errB]) ∧ Below w.heap.size w w' := refBad_c _ _ (by kernel_rfl) w
theorem rkey_c (s : ByteArray) (w : World) : Calls Tryd.prog 17 #[.string s] w fun e w' => e = .returned (.bool (keyP s)) ∧ Drawn0 w w' := tattlerref06_KeyMay.calls 253 s _ w (refKey_is s 253 (by omega))
theorem rtime_c (s : ByteArray) (hs : s.size ≤ 1000000) (w : World) : Calls Tryd.prog 18 #[.string s] w fun e w' => ∃ t, e = .returned (.tuple #[.int .i64 t, .bool (momB s)]) ∧ (momB s = true → t = momV s) ∧ Drawn0 w w' := by
  obtain ⟨h1, h2⟩ := refTime_is s 13 (by omega) hs
  refine (tattlerref07_Time.calls 13 s _ _ w h1).mono ?_
  rintro e w' ⟨rfl, hd⟩
  exact ⟨_, rfl, fun h => by rw [if_pos h], hd⟩
/-! ### Sets -/
theorem ramt_is (s : ByteArray) (k : Nat) (hk : 12 ≤ k) : tattlerref07_Amount.f k s = some (if amtB s then amtV s else -1) := by
  rw [refAmount_is s k hk]
  unfold amtB
  cases h : amtP s with
  | none => rfl
  | some n => rw [(amtV_of h).1]; rfl
theorem rbad_f : tattlerref07_Bad.f ⟨#[67, 76, 73, 69, 78, 84, 95, 69, 82, 82, 79, 82, 32, 98, 97, 100, 32, 99, 111, 109, 109, 97, 110, 100, 32, 108, 105, 110, 101, 32, 102, 111, 114, 109, 97, 116]⟩ = some (8, [], 0, 0, ⟨#[]⟩, false, fmtB) := by kernel_rfl
theorem rbad_b : tattlerref07_Bad.f ⟨#[83, 69, 82, 86, 69, 82, 95, 69, 82, 82, 79, 82, 32, 111, 98, 106, 101, 99, 116, 32, 116, 111, 111, 32, 108, 97, 114, 103, 101, 32, 102, 111, 114, 32, 99, 97, 99, 104, 101]⟩ = some (8, [], 0, 0, ⟨#[]⟩, false, bigB) := by kernel_rfl
theorem rd_wd (l : List ByteArray) (i : Nat) : rdOf ByteArray.empty l (i : Int) = wd l i := by
  unfold rdOf wd
  rw [Int.toNat_natCast]; rfl
end Go.Proofs.YthinmioognadpaaDoor.Cmd

/- The reference's set is the program's (own text). -/
namespace Go.Proofs.YthinmioognadpaaDoor.Cmd
open Go.RowKit Go.Proofs.YthinmioognadpaaDoorW.PrintWords Go.Proofs.YthinmioognadpaaDoorW.PrintLast Go.Proofs.YthinmioognadpaaDoorW.PrintMore Go.Proofs.YthinmioognadpaaDoor.PCmd Go.Proofs.YthinmioognadpaaDoor.Split
set_option linter.unusedVariables false
set_option linter.unusedSimpArgs false
theorem r1_ (l : List ByteArray) : rdOf ByteArray.empty l 1 = wd l 1 := rd_wd l 1
theorem r2_ (l : List ByteArray) : rdOf ByteArray.empty l 2 = wd l 2 := rd_wd l 2
theorem r3_ (l : List ByteArray) : rdOf ByteArray.empty l 3 = wd l 3 := rd_wd l 3
theorem r4_ (l : List ByteArray) : rdOf ByteArray.empty l 4 = wd l 4 := rd_wd l 4
theorem rset_j2 (k : Nat) (hk : 13 ≤ k) (l : List ByteArray) (h3 : 3 < l.length) (hs : ∀ x, x ∈ l → x.size ≤ 1000000) (d : Int) (b : Bool) (hq : b = false → amtB (wd l 2) = true) :
    tattlerref07_set.j2 (k + 1) l (l.length : Int) d b 8 [] 0 0 ⟨#[]⟩ false fmtB = some (if b = false ∧ momB (wd l 3) = true then (if 1024 < d then badA bigB d else (2, [wd l 1], amtV (wd l 2), momV (wd l 3), ⟨#[]⟩, decide (l.length = 6), ⟨#[]⟩, d)) else badA fmtB d) := by
  rw [tattlerref07_set.j2]
  cases b with
  | true => rw [if_pos rfl, if_neg (by simp)]; rfl
  | false =>
    have hb2 := hq rfl
    rw [if_neg (by simp), if_pos (by omega), r3_ l]
    obtain ⟨t1, t2⟩ := refTime_is (wd l 3) k hk (hs _ (wd_mem 3 h3))
    rw [t1, Option.bind_some]
    cases hm : momB (wd l 3) with
    | false => rw [if_neg (by simp), if_neg (by simp)]; rfl
    | true =>
      simp only [if_true]
      by_cases hbig : d > 1024
      · rw [if_pos hbig, rbad_b, Option.bind_some, if_pos ⟨trivial, trivial⟩, if_pos (by omega)]; rfl
      · rw [if_neg hbig, if_pos (by omega), if_pos (by omega), if_pos ⟨trivial, trivial⟩, if_neg (by omega), r2_ l, r1_ l, ramt_is _ k (by omega), hb2, if_pos rfl, Option.bind_some]
        have hf := amt_facts hb2
        have e1 : amtV (wd l 2) % 4294967296 = amtV (wd l 2) := by omega
        have e2 : ((l.length : Int) == 6) = decide (l.length = 6) := by rw [Bool.eq_iff_iff]; simp; omega
        rw [e1, e2]
theorem rset_is (l : List ByteArray) (last : Bool) (hl : l.length = 6 → last = decide (wd l 5 = noreplyB)) (hs : ∀ x, x ∈ l → x.size ≤ 1000000) : tattlerref07_set.f 256 l last = some (setP l) := by
  have hD : ∀ (k : Nat) (b : Bool), 255 ≤ k → b = decide (l.length = 5 ∨ l.length = 6) → tattlerref07_set.j0 (k + 1) l last (l.length : Int) (-1) b 8 [] 0 0 ⟨#[]⟩ false fmtB = tattlerref07_set.j1 k l last (l.length : Int) (dataP l) 8 [] 0 0 ⟨#[]⟩ false fmtB := by
    intro k b hk hb
    rw [tattlerref07_set.j0]
    unfold dataP
    by_cases h56 : l.length = 5 ∨ l.length = 6
    · rw [decide_eq_true h56] at hb
      rw [hb, if_pos rfl, if_pos (by omega), r4_ l, ramt_is _ k (by omega), Option.bind_some, if_pos h56]
    · rw [decide_eq_false h56] at hb
      rw [hb, if_neg (by simp), if_neg h56]
  have hge : -1 ≤ dataP l := by
    unfold dataP
    split
    · split
      · rename_i h; have := amt_facts h; omega
      · omega
    · omega
  have h1 : tattlerref07_set.j1 255 l last (l.length : Int) (dataP l) 8 [] 0 0 ⟨#[]⟩ false fmtB = some (setP l) := by
    rw [show (255 : Nat) = 254 + 1 from rfl, tattlerref07_set.j1]
    by_cases hd : dataP l < 0
    · rw [if_pos hd, show (254 : Nat) = 253 + 1 from rfl, tattlerref07_set.j2, if_pos rfl]
      have e : dataP l = -1 := by omega
      unfold setP
      rw [if_pos hd, e]; rfl
    · have h56 : l.length = 5 ∨ l.length = 6 := by
        by_cases h : l.length = 5 ∨ l.length = 6
        · exact h
        · exact absurd (show dataP l < 0 by unfold dataP; rw [if_neg h]; omega) hd
      have hJ : ∀ (q : Bool), q = true → (if 1 < (l.length : Int) then ((tattlerref06_KeyMay.f 254 (rdOf ByteArray.empty l 1)).bind fun t => (if t = true then (if 2 < (l.length : Int) then ((tattlerref07_Amount.f 254 (rdOf ByteArray.empty l 2)).bind fun t2 => (tattlerref07_set.j2 254 l (l.length : Int) (dataP l) (decide (t2 < 0)) 8 [] 0 0 ⟨#[]⟩ false fmtB)) else none) else (tattlerref07_set.j2 254 l (l.length : Int) (dataP l) true 8 [] 0 0 ⟨#[]⟩ false fmtB))) else none) = some (if amtB (wd l 2) = true ∧ momB (wd l 3) = true ∧ keyP (wd l 1) = true then (if 1024 < dataP l then badA bigB (dataP l) else (2, [wd l 1], amtV (wd l 2), momV (wd l 3), ⟨#[]⟩, decide (l.length = 6), ⟨#[]⟩, dataP l)) else badA fmtB (dataP l)) := by
        intro q _
        rw [if_pos (by omega), r1_ l, refKey_is _ 254 (by omega), Option.bind_some]
        cases hk : keyP (wd l 1) with
        | false => rw [if_neg (by simp), show (254 : Nat) = 253 + 1 from rfl, rset_j2 253 (by omega) l (by omega) hs _ true (by simp), if_neg (by simp), if_neg (by simp)]
        | true =>
          rw [if_pos rfl, if_pos (by omega), r2_ l, ramt_is _ 254 (by omega), Option.bind_some]
          cases ha : amtB (wd l 2) with
          | false =>
            rw [if_neg (by simp), decide_eq_true (by omega), show (254 : Nat) = 253 + 1 from rfl, rset_j2 253 (by omega) l (by omega) hs _ true (by simp), if_neg (by simp), if_neg (by simp)]
          | true =>
            have := amt_facts ha
            rw [if_pos rfl, decide_eq_false (by omega), show (254 : Nat) = 253 + 1 from rfl, rset_j2 253 (by omega) l (by omega) hs _ false (fun _ => ha)]
            cases hm : momB (wd l 3) with
            | false => rw [if_neg (by simp), if_neg (by simp)]
            | true => simp
      rw [if_neg hd]
      by_cases h6 : (l.length : Int) = 6
      · have hlst := hl (by omega)
        rw [if_pos h6, hlst]
        by_cases hnr : wd l 5 = noreplyB
        · have e : setP l = if amtB (wd l 2) = true ∧ momB (wd l 3) = true ∧ keyP (wd l 1) = true then (if 1024 < dataP l then badA bigB (dataP l) else (2, [wd l 1], amtV (wd l 2), momV (wd l 3), ⟨#[]⟩, decide (l.length = 6), ⟨#[]⟩, dataP l)) else badA fmtB (dataP l) := by
            unfold setP
            rw [if_neg hd, if_neg (fun h => h.2 hnr)]
          rw [decide_eq_true hnr, if_pos rfl, e]
          exact hJ true rfl
        · have e : setP l = badA fmtB (dataP l) := by
            unfold setP
            rw [if_neg hd, if_pos ⟨by omega, hnr⟩]
          rw [decide_eq_false hnr, if_neg (by simp), show (254 : Nat) = 253 + 1 from rfl, rset_j2 253 (by omega) l (by omega) hs _ true (by simp), if_neg (by simp), e]
      · have e : setP l = if amtB (wd l 2) = true ∧ momB (wd l 3) = true ∧ keyP (wd l 1) = true then (if 1024 < dataP l then badA bigB (dataP l) else (2, [wd l 1], amtV (wd l 2), momV (wd l 3), ⟨#[]⟩, decide (l.length = 6), ⟨#[]⟩, dataP l)) else badA fmtB (dataP l) := by
          unfold setP
          rw [if_neg hd, if_neg (fun h => h6 (by omega))]
        rw [if_neg h6, e]
        exact hJ true rfl
  unfold tattlerref07_set.f
  rw [rbad_f, Option.bind_some]
  by_cases h5 : (l.length : Int) = 5
  · rw [if_pos h5]
    exact (hD 255 true (by omega) (by rw [decide_eq_true (by omega)])).trans h1
  · rw [if_neg h5]
    exact (hD 255 _ (by omega) (by rw [Bool.eq_iff_iff]; simp; omega)).trans h1
theorem rset_c (l : List ByteArray) (n : Nat) (hn : l.length = n) (last : Bool) (hl : n = 6 → last = decide (wd l 5 = noreplyB)) (hs : ∀ x, x ∈ l → x.size ≤ 1000000) (A : Option Addr) (c : Nat) (w : World) (hC : Kd.C Kd.string w A n l) (hc : n ≤ c) :
    Calls Tryd.prog 19 #[.slice A n c, .bool last] w (TellsC (setP l) w.heap.size w) := by
  subst hn
  refine (tattlerref07_set.calls 256 A c l last _ _ _ _ _ _ _ _ w hC hc (rset_is l last hl hs)).mono ?_
  rintro e w' ⟨v, rfl, hR, hb⟩
  exact ⟨v, rfl, Kd.Q_of_R hR, hb⟩
end Go.Proofs.YthinmioognadpaaDoor.Cmd

/- The ways through tattlerref07.Parse (printed by wip/tools/gen_refparse.py, a program of this session). -/
namespace Go.Proofs.YthinmioognadpaaDoor.Cmd
open Go.RowKit Go.Proofs.YthinmioognadpaaDoorW.PrintWords Go.Proofs.YthinmioognadpaaDoorW.PrintLast Go.Proofs.YthinmioognadpaaDoorW.PrintMore Go.Proofs.YthinmioognadpaaDoor.PCmd Go.Proofs.YthinmioognadpaaDoor.Split
set_option linter.unusedVariables false
set_option linter.unusedSimpArgs false
theorem R_one {W : World} {base : Nat} {key : ByteArray} (hb : base ≤ W.heap.size) : Kd.R Kd.string 9 (W.alloc (.cells #[.string key] 9)) base (fun _ => True) (.slice (some ⟨W.heap.size, 0, none⟩) 1 1) [key] := by
  refine ⟨fun _ _ => trivial, [.string key], ?_, ?_⟩
  · have h2 := World.ownsRow_lit (base := base) (e := 9) (size := 1) W #[.string key] 1 hb (by decide) rfl
    exact h2
  · exact Reps.one (show Kd.M Kd.string _ _ _ key [.string key] from rfl) (Reps.none _ _)
theorem Q_one_new {W W2 : World} {base : Nat} {key : ByteArray} (h : Same (W.alloc (.cells #[.string key] 9)) W2 W.heap.size) (hb : base ≤ W.heap.size) : Kd.Q Kd.string 9 W2 base (fun _ => True) (.slice (some ⟨W.heap.size, 0, none⟩) 1 1) [key] :=
  Q_same (Kd.Q_of_R (R_one (Nat.le_refl _))) h hb
theorem Q_one_at {W W2 : World} {base g : Nat} {key : ByteArray} (hg : W.heap.size = g) (h : Same (W.alloc (.cells #[.string key] 9)) W2 g) (hb : base ≤ g) : Kd.Q Kd.string 9 W2 base (fun _ => True) (.slice (some ⟨g, 0, none⟩) 1 1) [key] := by
  subst hg; exact Q_one_new h hb
end Go.Proofs.YthinmioognadpaaDoor.Cmd

/- CmdRight: the plain law, and the walk (own text). -/
import Derived.Test.YtpfggidfcbgaiaaDoorPCmdRightx1
import Derived.Test.YtpfggidfcbgaiaaDoorCmdWords
namespace Go.Proofs.YtpfggidfcbgaiaaDoor.CmdLRight
open Go.RowKit Go.Proofs.YtpfggidfcbgaiaaDoorW.PrintWords Go.Proofs.YtpfggidfcbgaiaaDoorW.PrintLast Go.Proofs.YtpfggidfcbgaiaaDoorW.PrintMore Go.Proofs.YtpfggidfcbgaiaaDoor.Split Go.Proofs.YtpfggidfcbgaiaaDoor.Cmd Go.Proofs.YtpfggidfcbgaiaaDoor.PCmdRight
set_option linter.unusedVariables false
set_option linter.unusedSimpArgs false
/-- What holds of any answer. -/
def Good (a : Ans) : Prop :=
  (∃ rep d, a = badA rep d ∧ -1 ≤ d ∧ (rep = errB ∨ rep = fmtB ∨ rep = bigB)) ∨
  (∃ kind keys fl ex q d, a = (kind, keys, fl, ex, ⟨#[]⟩, q, ⟨#[]⟩, d) ∧ 1 ≤ kind ∧ kind ≤ 7 ∧ (∀ x, x ∈ keys → keyP x = true) ∧ (kind = 2 → 0 ≤ d ∧ d ≤ 1024) ∧ (kind ≠ 2 → d = -1))
theorem good_fmt : Good (badA fmtB (-1)) := Or.inl ⟨_, _, rfl, by omega, Or.inr (Or.inl rfl)⟩
theorem good_err : Good (badA errB (-1)) := Or.inl ⟨_, _, rfl, by omega, Or.inl rfl⟩
theorem dataP_ge (l : List ByteArray) : -1 ≤ dataP l := by
  unfold dataP
  split
  · split
    · rename_i h; have := amt_facts h; omega
    · omega
  · omega
theorem setP_good (l : List ByteArray) : Good (setP l) := by
  have hd := dataP_ge l
  unfold setP
  split
  · exact good_fmt
  · split
    · exact Or.inl ⟨_, _, rfl, hd, Or.inr (Or.inl rfl)⟩
    · split
      · rename_i h1 h2 h3
        split
        · exact Or.inl ⟨_, _, rfl, hd, Or.inr (Or.inr rfl)⟩
        · exact Or.inr ⟨2, _, _, _, _, _, rfl, by omega, by omega, fun x hx => by rw [List.mem_singleton] at hx; rw [hx]; exact h3.2.2, fun _ => by omega, fun h => absurd rfl h⟩
      · exact Or.inl ⟨_, _, rfl, hd, Or.inr (Or.inl rfl)⟩
theorem parseP_good (l : List ByteArray) : Good (parseP l) := by
  unfold parseP
  split
  · exact good_err
  split
  · split
    · rename_i h
      exact Or.inr ⟨1, _, _, _, _, _, rfl, by omega, by omega, fun x hx => List.all_eq_true.1 h.2.2 x hx, fun h => absurd h (by omega), fun _ => rfl⟩
    · exact good_fmt
  split
  · exact setP_good l
  split
  · split
    · rename_i h
      exact Or.inr ⟨3, _, _, _, _, _, rfl, by omega, by omega, fun x hx => by rw [List.mem_singleton] at hx; rw [hx]; exact h.2, fun h => absurd h (by omega), fun _ => rfl⟩
    · exact good_fmt
  split
  · split
    · rename_i h
      exact Or.inr ⟨4, _, _, _, _, _, rfl, by omega, by omega, fun x hx => by rw [List.mem_singleton] at hx; rw [hx]; exact h.2.2, fun h => absurd h (by omega), fun _ => rfl⟩
    · exact good_fmt
  split
  · split
    · exact Or.inr ⟨5, _, _, _, _, _, rfl, by omega, by omega, fun x hx => absurd hx (by simp), fun h => absurd h (by omega), fun _ => rfl⟩
    · exact good_fmt
  split
  · split
    · exact Or.inr ⟨6, _, _, _, _, _, rfl, by omega, by omega, fun x hx => absurd hx (by simp), fun h => absurd h (by omega), fun _ => rfl⟩
    · exact good_fmt
  split
  · split
    · exact Or.inr ⟨7, _, _, _, _, _, rfl, by omega, by omega, fun x hx => absurd hx (by simp), fun h => absurd h (by omega), fun _ => rfl⟩
    · exact good_fmt
  exact good_err
/-- The loop over the keys. -/
theorem keys_loop (d x0 x2 x3 : Int) (x1 : List ByteArray) (x4 : ByteArray) (x5 : Bool) (x6 : ByteArray) (keys : List ByteArray) (hl : keys.length ≤ 1000001) (hk : ∀ x, x ∈ keys → keyP x = true) (m : Nat) :
    ∀ (n i : Nat), keys.length - i = n → i ≤ keys.length → tattlerlaw07_CmdRight.l0 (n + 1 + m) d keys (keys.length : Int) (i : Int) x0 x1 x2 x3 x4 x5 x6 = tattlerlaw07_CmdRight.l0 (1 + m) d keys (keys.length : Int) (keys.length : Int) x0 x1 x2 x3 x4 x5 x6 := by
  intro n
  induction n with
  | zero =>
    intro i hd hi
    obtain rfl : i = keys.length := by omega
    rw [Nat.zero_add]
  | succ n ih =>
    intro i hd hi
    have h1 : i < keys.length := by omega
    have hn := ih (i + 1) (by omega) (by omega)
    have e2 : wrap64 ((i : Int) + 1) = ((i + 1 : Nat) : Int) := by rw [w64 (by omega) (by omega)]; omega
    rw [show n + 1 + 1 + m = (n + 1 + m) + 1 by omega]
    rw [tattlerlaw07_CmdRight.l0, if_pos (by omega), if_pos (by omega), if_pos (by omega), rd_at keys i h1]
    simp only [tattlerref06_KeyMay.f, Option.bind_some]
    rw [hk _ (List.getElem_mem h1), if_pos rfl, e2]
    exact hn
theorem rep_size {rep : ByteArray} (h : rep = errB ∨ rep = fmtB ∨ rep = bigB) : 2 < rep.size ∧ rep.size ≤ 100 ∧ (rep.extract (rep.size - 2) rep.size).toList = [13, 10] := by
  rcases h with rfl | rfl | rfl <;> refine ⟨by decide, by decide, ?_⟩ <;> rw [toList_eq] <;> decide +kernel
theorem law (a0 : ByteArray) : ∃ k, tattlerlaw07_CmdRight.f k a0 = some true := by
  by_cases h5 : (a0.size : Int) > 5000
  · exact ⟨0, by unfold tattlerlaw07_CmdRight.f; rw [if_pos h5]; rfl⟩
  have hl : (parseP (wordsB a0)).2.1.length ≤ 1000001 := by
    have hw : (wordsB a0).length ≤ 5001 := by
      have h1 : (wordsB a0).length ≤ (splitB a0).length := List.length_filter_le _ _
      have h2 := splitB_le a0
      omega
    unfold parseP setP
    (repeat' split) <;> simp [badA] <;> omega
  refine ⟨(parseP (wordsB a0)).2.1.length + 1 + 5, ?_⟩
  unfold tattlerlaw07_CmdRight.f cmd_Parse.f
  rw [if_neg h5, if_pos (by omega), Option.bind_some]
  rcases parseP_good (wordsB a0) with ⟨rep, d, e, hd, hr⟩ | ⟨kind, keys, fl, ex, q, d, e, k1, k2, hk, hs, ho⟩
  · rw [e]
    obtain ⟨r1, r2, r3⟩ := rep_size hr
    have ew : wrap64 ((rep.size : Int) - 2) = ((rep.size - 2 : Nat) : Int) := by rw [w64 (by omega) (by omega)]; omega
    have es : Cmd.sameP 8 [] 0 0 (⟨#[]⟩ : ByteArray) false rep 8 [] 0 0 (⟨#[]⟩ : ByteArray) false rep = true := decide_eq_true ⟨rfl, rfl, rfl, rfl, rfl, rfl, rfl⟩
    have hj : ∀ b, tattlerlaw07_CmdRight.j1 5 b 8 [] 0 0 (⟨#[]⟩ : ByteArray) false rep = some (!b) := by
      intro b
      rw [tattlerlaw07_CmdRight.j1]
      cases b with
      | true => rfl
      | false =>
        rw [if_neg (by simp), if_pos rfl]
        simp only [tattlerlaw07_fixed.f, tattlerref07_Same.f, Option.bind_some]
        rw [if_pos trivial, es, if_pos rfl, if_pos (by omega), ew, if_pos (by omega), if_pos (by omega), Int.toNat_natCast, r3]
        rfl
    show tattlerlaw07_CmdRight.l0 (0 + 1 + 5) d [] ((0 : Nat) : Int) 0 8 [] 0 0 (⟨#[]⟩ : ByteArray) false rep = some true
    rw [tattlerlaw07_CmdRight.l0, if_neg (by decide), if_neg (by omega), if_neg (by decide), if_neg (by decide), if_neg (by decide), if_pos rfl]
    exact hj false
  · rw [e]
    rw [e] at hl
    simp only at hl ⊢
    have h := keys_loop d kind fl ex keys (⟨#[]⟩ : ByteArray) q (⟨#[]⟩ : ByteArray) keys hl hk 5 keys.length 0 rfl (by omega)
    have hj : ∀ b, tattlerlaw07_CmdRight.j1 5 b kind keys fl ex (⟨#[]⟩ : ByteArray) q (⟨#[]⟩ : ByteArray) = some (!b) := by
      intro b
      rw [tattlerlaw07_CmdRight.j1]
      cases b with
      | true => rfl
      | false =>
        have e0 : (⟨#[]⟩ : ByteArray).toList = [] := by rw [toList_eq]
        rw [if_neg (by simp), if_neg (by omega)]
        simp only [tattlerlaw07_fixed.f, Option.bind_some]
        rw [if_pos trivial, e0, if_pos rfl]
        rfl
    refine Eq.trans h ?_
    rw [show 1 + 5 = 5 + 1 from rfl, tattlerlaw07_CmdRight.l0, if_neg (by omega)]
    by_cases hk2 : kind = 2
    · have := hs hk2
      rw [if_neg (by omega), if_neg (by omega), if_neg (by omega), if_pos hk2, if_neg (by omega), if_neg (by omega)]
      exact hj false
    · have := ho hk2
      rw [if_neg (by omega), if_neg (by omega), if_neg (by omega), if_neg hk2, if_neg (by omega), hj, decide_eq_false (by omega)]
      rfl
theorem walk (a0 : ByteArray) (w : World) : Calls Tryd.prog 5 #[.string a0] w fun e w' => e = .returned (.bool true) ∧ Below w.heap.size w w' := by
  obtain ⟨k, hk⟩ := law a0
  exact tattlerlaw07_CmdRight.calls k a0 true w hk
end Go.Proofs.YtpfggidfcbgaiaaDoor.CmdLRight

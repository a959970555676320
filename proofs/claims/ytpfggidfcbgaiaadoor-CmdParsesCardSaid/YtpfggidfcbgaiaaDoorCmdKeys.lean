/- cmd.words, cmd.keys and cmd.set as Parse meets them (own text). -/
import Derived.Test.YtpfggidfcbgaiaaDoorCmdSetV
namespace Go.Proofs.YtpfggidfcbgaiaaDoor.Cmd
open Go.RowKit Go.Proofs.YtpfggidfcbgaiaaDoorW.PrintWords Go.Proofs.YtpfggidfcbgaiaaDoorW.PrintLast Go.Proofs.YtpfggidfcbgaiaaDoorW.PrintMore Go.Proofs.YtpfggidfcbgaiaaDoor.PCmd Go.Proofs.YtpfggidfcbgaiaaDoor.Split
set_option linter.unusedVariables false
set_option linter.unusedSimpArgs false
/-! ### Words -/
/-- A line's words. -/
def wordsB (s : ByteArray) : List ByteArray := (splitB s).filter (fun x => !x.data.toList.isEmpty)
theorem words_l0 (l : List ByteArray) (hl : l.length ≤ 1000001) : ∀ (d i k : Nat) (acc : List ByteArray), l.length - i = d → i ≤ l.length → d < k → acc.length ≤ i →
    cmd_words.l0 k acc l (l.length : Int) (i : Int) = some (acc ++ (l.drop i).filter (fun x => !x.data.toList.isEmpty)) := by
  intro d
  induction d with
  | zero =>
    intro i k acc hd hi hk ha
    obtain ⟨k, rfl⟩ : ∃ m, k = m + 1 := ⟨k - 1, by omega⟩
    obtain rfl : i = l.length := by omega
    simp only [cmd_words.l0]
    rw [if_neg (by omega), List.drop_length, List.filter_nil, List.append_nil]
  | succ d ih =>
    intro i k acc hd hi hk ha
    obtain ⟨k, rfl⟩ : ∃ m, k = m + 1 := ⟨k - 1, by omega⟩
    have h1 : i < l.length := by omega
    have hr : rdOf ByteArray.empty l (i : Int) = l[i] := by
      unfold rdOf
      rw [Int.toNat_natCast, List.getD_eq_getElem?_getD, List.getElem?_eq_getElem h1]; rfl
    have e2 : wrap64 ((i : Int) + 1) = ((i + 1 : Nat) : Int) := by rw [w64 (by omega) (by omega)]; omega
    simp only [cmd_words.l0]
    rw [if_pos (by omega), if_pos (by omega), if_pos (by omega), hr, e2, List.drop_eq_getElem_cons h1, toList_eq]
    clear e2
    by_cases h2 : l[i].data.toList = []
    · rw [if_pos h2, List.filter_cons_of_neg (by simp [h2])]
      exact ih (i + 1) k acc (by omega) (by omega) (by omega) (by omega)
    · rw [if_neg h2, if_pos (by omega), List.filter_cons_of_pos (by simpa using h2)]
      have h := ih (i + 1) k (acc ++ [l[i]]) (by omega) (by omega) (by omega) (by rw [List.length_append]; simp; omega)
      rw [h, List.append_assoc]; rfl
theorem splitB_le (s : ByteArray) : (splitB s).length ≤ s.size + 1 := by
  rw [splitB_length]
  have h1 := List.count_le_length (a := (32 : UInt8)) (l := s.data.toList)
  rw [size_list] at h1
  omega
theorem words_is (s : ByteArray) (hs : s.size ≤ 1000000) (k : Nat) (hk : s.size + 2 ≤ k) : cmd_words.f k s = some (wordsB s) := by
  unfold cmd_words.f strings_Split.f
  rw [if_pos ⟨rfl, hs⟩, Option.bind_some]
  have hl := splitB_le s
  have h := words_l0 (splitB s) (by omega) (splitB s).length 0 k [] rfl (by omega) (by omega) (by simp)
  rw [List.nil_append, List.drop_zero] at h
  exact h
theorem words_size {s x : ByteArray} (h : x ∈ wordsB s) : x.size ≤ s.size := by
  unfold wordsB at h
  obtain ⟨h1, _⟩ := List.mem_filter.1 h
  unfold splitB at h1
  obtain ⟨y, hy, rfl⟩ := List.mem_map.1 h1
  have key : ∀ (l y : List UInt8), y ∈ splitS l → y.length ≤ l.length := by
    intro l
    induction l with
    | nil => intro y hy; simp [splitS] at hy; subst hy; simp
    | cons c r ih =>
      intro y hy
      unfold splitS at hy
      by_cases hc : c = 32
      · rw [if_pos hc] at hy
        rcases List.mem_cons.1 hy with rfl | h
        · simp
        · have := ih y h; simp; omega
      · rw [if_neg hc] at hy
        obtain ⟨h1, t1, e⟩ : ∃ h1 t1, splitS r = h1 :: t1 := by
          cases hx : splitS r with
          | nil => exact absurd hx (splitS_ne r)
          | cons a b => exact ⟨a, b, rfl⟩
        rw [e] at hy
        simp only [List.mem_cons] at hy
        rcases hy with rfl | h
        · have := ih h1 (by rw [e]; simp); simp; omega
        · have := ih y (by rw [e]; exact List.mem_cons_of_mem _ h); simp; omega
  have h2 := key _ _ hy
  rw [size_list] at h2
  exact h2
theorem words_c (s : ByteArray) (hs : s.size ≤ 1000000) (n : Nat) (hn : (wordsB s).length = n) (h0 : 0 < n) (w : World) : Calls Tryd.prog 14 #[.string s] w fun e w' => ∃ g cap, e = .returned (.slice (some ⟨g, 0, none⟩) n cap) ∧ n ≤ cap ∧ w.heap.size ≤ g ∧ g < w'.heap.size ∧ Hid (∀ i x, (wordsB s)[i]? = some x → w'.cell? ⟨g, i, none⟩ = some (.string x)) ∧ Hid (Kd.R Kd.string 9 w' w.heap.size (fun _ => True) (.slice (some ⟨g, 0, none⟩) n cap) (wordsB s)) ∧ Below w.heap.size w w' := by
  refine (cmd_words.calls (s.size + 2) s (wordsB s) w (words_is s hs _ (Nat.le_refl _))).mono ?_
  rintro e w' ⟨v, rfl, hR, hb⟩
  subst hn
  obtain ⟨g, cap, rfl, hg, hlt, _⟩ := Kd.R_form hR h0
  refine ⟨g, cap, rfl, (Kd.R_reads' hR).2.1, hg, hlt, Lib.hid (fun i x hx => ?_), Lib.hid hR, hb⟩
  have hi : i < (wordsB s).length := by
    rcases Nat.lt_or_ge i (wordsB s).length with h | h
    · exact h
    · rw [List.getElem?_eq_none h] at hx; cases hx
  obtain ⟨hc, _⟩ := Kd.R_celln (⟨#[]⟩ : ByteArray) hR (i : Int) (by omega) (by omega)
  rw [Int.toNat_natCast] at hc
  rw [hc]
  unfold rdOf
  rw [Int.toNat_natCast, List.getD_eq_getElem?_getD, hx]; rfl
theorem words_nil (s : ByteArray) (hs : s.size ≤ 1000000) (hn : wordsB s = []) (w : World) : Calls Tryd.prog 14 #[.string s] w fun e w' => ∃ A cap, e = .returned (.slice A 0 cap) ∧ Below w.heap.size w w' := by
  refine (cmd_words.calls (s.size + 2) s (wordsB s) w (words_is s hs _ (Nat.le_refl _))).mono ?_
  rintro e w' ⟨v, rfl, hR, hb⟩
  rw [hn] at hR
  obtain ⟨A, c, rfl, _, _⟩ := Kd.R_reads hR
  exact ⟨A, c, rfl, hb⟩
/-! ### Keys -/
theorem keys_l0 (l : List ByteArray) (hl : l.length ≤ 1000001) (hs : ∀ x, x ∈ l → x.size ≤ 1000000) : ∀ (d i k : Nat), l.length - i = d → i ≤ l.length → d + 1000001 < k →
    cmd_keys.l0 k l (l.length : Int) (i : Int) = some ((l.drop i).all keyP) := by
  intro d
  induction d with
  | zero =>
    intro i k hd hi hk
    obtain ⟨k, rfl⟩ : ∃ m, k = m + 1 := ⟨k - 1, by omega⟩
    obtain rfl : i = l.length := by omega
    simp only [cmd_keys.l0]
    rw [if_neg (by omega), List.drop_length]; rfl
  | succ d ih =>
    intro i k hd hi hk
    obtain ⟨k, rfl⟩ : ∃ m, k = m + 1 := ⟨k - 1, by omega⟩
    have h1 : i < l.length := by omega
    have hr : rdOf ByteArray.empty l (i : Int) = l[i] := by
      unfold rdOf
      rw [Int.toNat_natCast, List.getD_eq_getElem?_getD, List.getElem?_eq_getElem h1]; rfl
    have e2 : wrap64 ((i : Int) + 1) = ((i + 1 : Nat) : Int) := by rw [w64 (by omega) (by omega)]; omega
    have hz := hs l[i] (List.getElem_mem h1)
    simp only [cmd_keys.l0]
    rw [if_pos (by omega), if_pos (by omega), if_pos (by omega), hr, e2, List.drop_eq_getElem_cons h1, keyMay_is _ k hz (by omega), Option.bind_some, List.all_cons]
    clear e2
    cases h2 : keyP l[i] with
    | true => rw [if_pos rfl, Bool.true_and]; exact ih (i + 1) k (by omega) (by omega) (by omega)
    | false => rw [if_neg (by simp)]; rfl
theorem keys_is (l : List ByteArray) (hl : l.length ≤ 1000001) (hs : ∀ x, x ∈ l → x.size ≤ 1000000) : cmd_keys.f (l.length + 1000002) l = some (l.all keyP) := by
  unfold cmd_keys.f
  have h := keys_l0 l hl hs l.length 0 (l.length + 1000002) rfl (by omega) (by omega)
  rw [List.drop_zero] at h
  exact h
theorem keys_c (l : List ByteArray) (hl : l.length ≤ 1000001) (hs : ∀ x, x ∈ l → x.size ≤ 1000000) (A : Option Addr) (c : Nat) (w : World) (hC : Kd.C Kd.string w A l.length l) (hc : l.length ≤ c) :
    Calls Tryd.prog 19 #[.slice A l.length c] w fun e w' => e = .returned (.bool (l.all keyP)) ∧ Drawn0 w w' := cmd_keys.calls _ A c l _ w hC hc (keys_is l hl hs)
theorem keys_nil (w : World) : Calls Tryd.prog 19 #[.slice none 0 0] w fun e w' => e = .returned (.bool true) ∧ Drawn0 w w' :=
  keys_c [] (by simp) (fun x h => by simp at h) none 0 w (Kd.C_nil _ w) (Nat.le_refl _)
theorem Q_tail {w : World} {base g cap : Nat} {l : List ByteArray} {m : Nat} (hR : Kd.R Kd.string 9 w base (fun _ => True) (.slice (some ⟨g, 0, none⟩) l.length cap) l) (hm : 1 ≤ m) (hl : m ≤ l.length) (hc : 2 ≤ cap) :
    Kd.Q Kd.string 9 w base (fun _ => True) (.slice (some ⟨g, 1, none⟩) (m - 1) (cap - 1)) ((l.take m).drop 1) := by
  have h := Kd.Q_drop (k := 1) (Kd.Q_take (m := m) (Kd.Q_of_R hR) hl) (by rw [List.length_take]; omega)
  rw [if_neg (by omega)] at h
  exact h
theorem keys_tail {w : World} {base g cap : Nat} {l : List ByteArray} {m : Nat} (hR : Kd.R Kd.string 9 w base (fun _ => True) (.slice (some ⟨g, 0, none⟩) l.length cap) l) (hm : 1 ≤ m) (hl : m ≤ l.length) (hll : l.length ≤ 1000001) (hc : 2 ≤ cap) (hs : ∀ x, x ∈ l → x.size ≤ 1000000)
    (W : World) (hb : Below w.heap.size w W) : Calls Tryd.prog 19 #[.slice (some ⟨g, 1, none⟩) (m - 1) (cap - 1)] W fun e w' => e = .returned (.bool (((l.take m).drop 1).all keyP)) ∧ Drawn0 W w' := by
  have hQ := Kd.Q_below (Q_tail hR hm hl hc) hb
  obtain ⟨h1, h2, h3⟩ := Kd.Q_reads' hQ
  have h4 := keys_c ((l.take m).drop 1) (by rw [← h1]; omega) (fun x hx => hs x (List.mem_of_mem_take (List.mem_of_mem_drop hx))) _ (cap - 1) W h3 (by omega)
  rw [← h1] at h4
  exact h4
end Go.Proofs.YtpfggidfcbgaiaaDoor.Cmd

/- A line's words, without any program: parted at blanks; what is empty falls away (own text). -/
import Derived.Test.YtbgoedhpndflpaaDoorProg
import Derived.Lib.Bytealg
import Derived.Lib.Strings
import Derived.Lib.CountLaws
import Derived.Lib.IndexLaws
namespace Go.Proofs.YtbgoedhpndflpaaDoor.Cmd
set_option linter.unusedVariables false
set_option linter.unusedSimpArgs false
/-- A line, parted at each blank. -/
def splitS : List UInt8 → List (List UInt8)
  | [] => [[]]
  | c :: r => if c = 32 then [] :: splitS r else match splitS r with
    | [] => [[c]]
    | h :: t => (c :: h) :: t
theorem splitS_ne : ∀ l, splitS l ≠ []
  | [] => by simp [splitS]
  | c :: r => by
    unfold splitS
    by_cases h : c = 32
    · rw [if_pos h]; simp
    · rw [if_neg h]
      split <;> simp
theorem splitS_append (y : List UInt8) : ∀ x, splitS (x ++ 32 :: y) = splitS x ++ splitS y
  | [] => by simp [splitS]
  | c :: x => by
    have ih := splitS_append y x
    rw [List.cons_append]
    by_cases h : c = 32
    · subst h
      simp [splitS, ih]
    · obtain ⟨h1, t1, e⟩ : ∃ h1 t1, splitS x = h1 :: t1 := by
        cases hx : splitS x with
        | nil => exact absurd hx (splitS_ne x)
        | cons a b => exact ⟨a, b, rfl⟩
      simp [splitS, h, ih, e]
theorem splitS_free : ∀ x : List UInt8, 32 ∉ x → splitS x = [x]
  | [], _ => rfl
  | c :: x, h => by
    have h1 : c ≠ 32 := fun e => h (by simp [e])
    have h2 : 32 ∉ x := fun e => h (List.mem_cons_of_mem _ e)
    simp [splitS, h1, splitS_free x h2]
theorem splitS_part (x y : List UInt8) (h : 32 ∉ x) : splitS (x ++ 32 :: y) = x :: splitS y := by
  rw [splitS_append, splitS_free x h]; rfl
theorem splitS_length : ∀ l, (splitS l).length = l.count 32 + 1
  | [] => rfl
  | c :: r => by
    have ih := splitS_length r
    by_cases h : c = 32
    · subst h
      simp [splitS, ih]
    · obtain ⟨h1, t1, e⟩ : ∃ h1 t1, splitS r = h1 :: t1 := by
        cases hx : splitS r with
        | nil => exact absurd hx (splitS_ne r)
        | cons a b => exact ⟨a, b, rfl⟩
      rw [e] at ih
      have hc : (c == 32) = false := by simpa using h
      simp [splitS, h, e, List.count_cons, hc]
      simpa using ih
/-- A line's words. -/
def wordsL (l : List UInt8) : List (List UInt8) := (splitS l).filter (fun w => !w.isEmpty)
theorem wordsL_append (x y : List UInt8) : wordsL (x ++ 32 :: y) = wordsL x ++ wordsL y := by
  unfold wordsL
  rw [splitS_append, List.filter_append]
theorem wordsL_nil : wordsL [] = [] := rfl
theorem wordsL_blank (y : List UInt8) : wordsL (32 :: y) = wordsL y := wordsL_append [] y
theorem wordsL_free (x : List UInt8) (h : 32 ∉ x) : wordsL x = if x = [] then [] else [x] := by
  unfold wordsL
  rw [splitS_free x h]
  cases x <;> simp
theorem wordsL_word (x y : List UInt8) (h : 32 ∉ x) (hn : x ≠ []) : wordsL (x ++ 32 :: y) = x :: wordsL y := by
  rw [wordsL_append, wordsL_free x h, if_neg hn]; rfl
theorem wordsL_one (x : List UInt8) (h : 32 ∉ x) (hn : x ≠ []) : wordsL x = [x] := by
  rw [wordsL_free x h, if_neg hn]
/-- Every word is free of blanks, and isn't empty. -/
theorem splitS_mem : ∀ (l : List UInt8) (w : List UInt8), w ∈ splitS l → 32 ∉ w
  | [], w, h => by simp [splitS] at h; subst h; simp
  | c :: r, w, h => by
    unfold splitS at h
    by_cases hc : c = 32
    · rw [if_pos hc] at h
      rcases List.mem_cons.1 h with rfl | h
      · simp
      · exact splitS_mem r w h
    · rw [if_neg hc] at h
      obtain ⟨h1, t1, e⟩ : ∃ h1 t1, splitS r = h1 :: t1 := by
        cases hx : splitS r with
        | nil => exact absurd hx (splitS_ne r)
        | cons a b => exact ⟨a, b, rfl⟩
      rw [e] at h
      simp only [List.mem_cons] at h
      rcases h with rfl | h
      · intro hm
        rcases List.mem_cons.1 hm with h2 | h2
        · exact hc h2.symm
        · exact splitS_mem r h1 (by rw [e]; simp) h2
      · exact splitS_mem r w (by rw [e]; exact List.mem_cons_of_mem _ h)
theorem wordsL_mem {l w : List UInt8} (h : w ∈ wordsL l) : 32 ∉ w ∧ w ≠ [] := by
  unfold wordsL at h
  obtain ⟨h1, h2⟩ := List.mem_filter.1 h
  exact ⟨splitS_mem l w h1, by intro e; subst e; simp at h2⟩
/-- Where the first blank stands. -/
theorem index_none : ∀ (l : List UInt8), Lib.indexByte l 32 < 0 → 32 ∉ l
  | [], _ => by simp
  | b :: l, h => by
    unfold Lib.indexByte at h
    by_cases hb : b = 32
    · subst hb; simp at h
    · have hb' : (b == 32) = false := by simpa using hb
      rw [hb'] at h
      simp only [Bool.false_eq_true, if_false] at h
      by_cases h2 : Lib.indexByte l 32 = -1
      · have ih := index_none l (by omega)
        intro hm
        rcases List.mem_cons.1 hm with h3 | h3
        · exact hb h3.symm
        · exact ih h3
      · have h2' : (Lib.indexByte l 32 == -1) = false := by simpa using h2
        rw [h2'] at h
        simp only [Bool.false_eq_true, if_false] at h
        have := Lib.indexByte_ge l 32
        omega
theorem index_some : ∀ (l : List UInt8) (m : Nat), Lib.indexByte l 32 = (m : Int) → ∃ x y, l = x ++ 32 :: y ∧ x.length = m ∧ 32 ∉ x
  | [], m, h => by simp [Lib.indexByte] at h
  | b :: l, m, h => by
    unfold Lib.indexByte at h
    by_cases hb : b = 32
    · subst hb
      simp at h
      exact ⟨[], l, rfl, by simp; omega, by simp⟩
    · have hb' : (b == 32) = false := by simpa using hb
      rw [hb'] at h
      simp only [Bool.false_eq_true, if_false] at h
      by_cases h2 : Lib.indexByte l 32 = -1
      · rw [h2] at h; simp at h
      · have h2' : (Lib.indexByte l 32 == -1) = false := by simpa using h2
        rw [h2'] at h
        simp only [Bool.false_eq_true, if_false] at h
        have h3 := Lib.indexByte_ge l 32
        obtain ⟨k, rfl⟩ : ∃ k : Nat, m = k + 1 := ⟨m - 1, by omega⟩
        obtain ⟨x, y, e, hx, hf⟩ := index_some l k (by omega)
        refine ⟨b :: x, y, by rw [e]; rfl, by simp [hx], ?_⟩
        intro hm
        rcases List.mem_cons.1 hm with h4 | h4
        · exact hb h4.symm
        · exact hf h4
end Go.Proofs.YtbgoedhpndflpaaDoor.Cmd

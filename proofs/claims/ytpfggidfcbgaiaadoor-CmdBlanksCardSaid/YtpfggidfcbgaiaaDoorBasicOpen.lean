/- Slices of texts and of bytes that came in, opened to their cells, and read as lists (own text). -/
import Derived.Test.YtpfggidfcbgaiaaDoorOpener
import Derived.Test.YtpfggidfcbgaiaaDoorWWords
import Derived.Test.YtpfggidfcbgaiaaDoorWMore
namespace Go.Proofs.YtpfggidfcbgaiaaDoor.Opener
open Go.RowKit Go.ChangeShapes Go.WideShapes Go.Deep Go.Proofs.YtpfggidfcbgaiaaDoorW.PrintWords
set_option linter.unusedVariables false
set_option linter.unusedSimpArgs false
theorem cells_String : Tryd.prog.cellsOf 9 = 1 := by kernel_rfl
section
variable {H : Type} {enc : TypeId × Value → H} {w : World} {base : Nat} {spare : Nat → Bool} {held : Bool}
def IsString (cs : List Value) : Prop := ∃ s : ByteArray, cs = [.string s]
theorem String_cells {fuel : Nat} {cs : List Value} {x : DataW H × List MemPlace} (h : DataW.trod enc Tryd.prog w base spare held fuel 9 cs = some x) : IsString cs := by
  obtain ⟨a, e, _, _⟩ := DataW.trod_string Tryd.underlying9 h
  exact ⟨a, e⟩
end
theorem cells_U8 : Tryd.prog.cellsOf 5 = 1 := by kernel_rfl
section
variable {H : Type} {enc : TypeId × Value → H} {w : World} {base : Nat} {spare : Nat → Bool} {held : Bool}
def IsU8 (cs : List Value) : Prop := ∃ n : Int, cs = [.int .u8 n] ∧ 0 ≤ n ∧ n ≤ 255
theorem U8_cells {fuel : Nat} {cs : List Value} {x : DataW H × List MemPlace} (h : DataW.trod enc Tryd.prog w base spare held fuel 5 cs = some x) : IsU8 cs := by
  obtain ⟨a, e, _, w0⟩ := DataW.trod_int Tryd.underlying5 h
  exact ⟨a, e, bounds_u8 w0⟩
end
/-- A row of cells, each of a kind, read as a list. -/
theorem list_of {α : Type} (d : Kd α) (P : α → Prop) (R : List Value → Prop) (hsz : d.sz = 1) {w : World} (hR : ∀ cs, R cs → ∃ x, d.K w x cs ∧ P x) {b off : Nat} :
    ∀ n : Nat, (∀ i, i < n → ∃ cs, R cs ∧ cs.length = 1 ∧ ∀ j, j < 1 → w.cell? ⟨b, off + (i * 1 + j), none⟩ = cs[j]?) →
    ∃ l : List α, l.length = n ∧ (∀ x, x ∈ l → P x) ∧ ∀ (j : Nat) (p : α), l[j]? = some p → ∃ c : List Value, c.length = d.sz ∧ d.K w p c ∧ ∀ (i : Nat) (u : Value), c[i]? = some u → w.cell? (Addr.add ⟨b, off, none⟩ (j * d.sz + i)) = some u := by
  intro n
  induction n with
  | zero => intro _; exact ⟨[], rfl, fun x h => absurd h (by simp), fun j p h => by simp at h⟩
  | succ n ih =>
    intro h
    obtain ⟨l, hl, hP, hr⟩ := ih (fun i hi => h i (by omega))
    obtain ⟨cs, hc, hlen, hcell⟩ := h n (by omega)
    obtain ⟨x, hx, hp⟩ := hR cs hc
    refine ⟨l ++ [x], by rw [List.length_append, hl]; rfl, fun y hy => ?_, fun j p hjp => ?_⟩
    · rcases List.mem_append.1 hy with h1 | h1
      · exact hP y h1
      · rw [List.mem_singleton] at h1; rw [h1]; exact hp
    · rcases Nat.lt_or_ge j l.length with hj | hj
      · rw [List.getElem?_append_left hj] at hjp
        exact hr j p hjp
      · rw [List.getElem?_append_right hj] at hjp
        obtain ⟨rfl, rfl⟩ : j = n ∧ x = p := by
          rcases Nat.lt_or_ge (j - l.length) 1 with h1 | h1
          · have e : j - l.length = 0 := by omega
            rw [e] at hjp
            exact ⟨by omega, by simpa using hjp⟩
          · rw [List.getElem?_eq_none (by simpa using h1)] at hjp; cases hjp
        refine ⟨cs, by rw [hsz]; exact hlen, hx, fun i u hu => ?_⟩
        have hi : i < 1 := by
          rcases Nat.lt_or_ge i 1 with h1 | h1
          · exact h1
          · rw [List.getElem?_eq_none (by rw [hlen]; exact h1)] at hu; cases hu
        have h2 := hcell i hi
        rw [hu] at h2
        rw [hsz, Go.WideShapes.add_plain]
        exact h2
theorem C_of {α : Type} (d : Kd α) (P : α → Prop) (R : List Value → Prop) (hsz : d.sz = 1) {w : World} (hR : ∀ cs, R cs → ∃ x, d.K w x cs ∧ P x) {A : Option Addr} {len cap : Nat}
    (r : len ≤ cap ∧ cap ≤ maxLen ∧ (0 < len → ∃ b off, A = some ⟨b, off, none⟩ ∧ b < w.heap.size ∧ ∀ i, i < len → ∃ cs, R cs ∧ cs.length = 1 ∧ ∀ j, j < 1 → w.cell? ⟨b, off + (i * 1 + j), none⟩ = cs[j]?)) :
    ∃ l : List α, l.length = len ∧ (∀ x, x ∈ l → P x) ∧ d.C w A l.length l ∧ l.length ≤ cap := by
  obtain ⟨hlc, hcm, hrow⟩ := r
  unfold maxLen at hcm
  by_cases h0 : len = 0
  · exact ⟨[], h0.symm, fun x h => absurd h (by simp), ⟨rfl, by simp, fun h => absurd h (by simp)⟩, by simp⟩
  · obtain ⟨b, off, hA, hb, hc⟩ := hrow (by omega)
    obtain ⟨l, hl, hP, hr⟩ := list_of d P R hsz hR len hc
    exact ⟨l, hl, hP, ⟨rfl, by omega, fun _ => ⟨_, hA, hr⟩⟩, by omega⟩
end Go.Proofs.YtpfggidfcbgaiaaDoor.Opener

/- Merged of Opener, BasicOpen (own text; wip/tools/merge.py). -/
import Derived.Test.YthinmioognadpaaDoorMem
import Derived.Deep.Slices
import Derived.Deep.Fields
import Derived.ChangeSame
import Derived.OpenShut
import Derived.ProofKit
import Derived.Test.YthinmioognadpaaDoorWWords
import Derived.Test.YthinmioognadpaaDoorWMore
/- Arguments that are structs, and slices of structs, opened to their cells (own text). -/
namespace Go.Proofs.YthinmioognadpaaDoor.Opener
open Go.RowKit Go.ChangeShapes Go.WideShapes Go.Deep
set_option linter.unusedVariables false
set_option linter.unusedSimpArgs false
section
variable {H : Type} {enc : TypeId × Value → H} {P : Program} {w : World} {base : Nat} {spare : Nat → Bool} {held : Bool}
/-- A struct's fields, each read for itself. -/
theorem fields_of {t : TypeId} {fs : Array Field} {fuel : Nat} {cs : List Value} {x : DataW H × List MemPlace} (ht : P.underlying t = some (.struct fs)) (h : DataW.trod enc P w base spare held fuel t cs = some x) :
    cs.length = P.cellsOf t ∧ ∃ n, ∀ (i : Nat) (f : Field), fs[i]? = some f → ∃ y, DataW.trod enc P w base spare held n f.type ((cs.drop f.offset).take (P.cellsOf f.type)) = some y := by
  obtain ⟨xs, n, _, _, hl, hlen, hf⟩ := DataW.trod_struct ht h
  refine ⟨hl, n, fun i f hi => ?_⟩
  have hil : i < xs.length := by
    rw [hlen]
    rcases Nat.lt_or_ge i fs.size with g | g
    · exact g
    · rw [Array.getElem?_eq_none g] at hi; cases hi
  exact ⟨xs[i], by rw [hf i f hi, List.getElem?_eq_getElem hil]⟩
/-- A slice's elements, each its cells at a plain address; R: what the cells of an element are. -/
theorem slice_rows {t e : TypeId} {C : Nat} {R : List Value → Prop} {fuel : Nat} {cs : List Value} {x : DataW H × List MemPlace} (ht : P.underlying t = some (.slice e)) (hC : P.cellsOf e = C) (hpos : 0 < C)
    (hR : ∀ n cs' y, DataW.trod enc P w base spare held n e cs' = some y → R cs') (h : DataW.trod enc P w base spare held fuel t cs = some x) :
    ∃ (a : Option Addr) (len cap : Nat), cs = [.slice a len cap] ∧ len ≤ cap ∧ cap ≤ maxLen ∧ (0 < len → ∃ b off, a = some ⟨b, off, none⟩ ∧ b < w.heap.size ∧
      ∀ i, i < len → ∃ cs', R cs' ∧ cs'.length = C ∧ ∀ j, j < C → w.cell? ⟨b, off + (i * C + j), none⟩ = cs'[j]?) := by
  rcases open_slice ht h with ⟨h0, _⟩ | ⟨a, len, cap, m, n, D, Pl, hcs, hb, hl, hm, hmm, hx, hi⟩
  · exact ⟨none, 0, 0, h0, Nat.le_refl _, by unfold maxLen; omega, fun h => absurd h (by omega)⟩
  · refine ⟨some a, len, cap, hcs, hl, hm, fun hp => ?_⟩
    have hml : len ≤ m := by rw [hmm]; split <;> omega
    rw [hC] at hi
    obtain ⟨b, off, spot⟩ := a
    obtain ⟨cs0, hc0, ht0⟩ := hi 0 (by omega)
    obtain ⟨_, hl0, hat0⟩ := World.cells?_some hc0
    have h00 := hat0 0 hpos
    rw [List.getElem?_eq_getElem (by omega)] at h00
    have hspot : spot = none := by simpa [Addr.add] using World.cell?_spot h00
    subst hspot
    refine ⟨b, off, rfl, ?_, fun i hil => ?_⟩
    · have := World.block_lt_of_cell? w _ h00
      simpa [Addr.add] using this
    · obtain ⟨cs', hc, ht'⟩ := hi i (by omega)
      obtain ⟨_, hcl, hat⟩ := World.cells?_some hc
      refine ⟨cs', hR _ _ _ ht', hcl, fun j hj => ?_⟩
      have := hat j hj
      rw [Go.Deep.add_add, Go.WideShapes.add_plain] at this
      exact this
end
end Go.Proofs.YthinmioognadpaaDoor.Opener

/- Slices of texts and of bytes that came in, opened to their cells, and read as lists (own text). -/
namespace Go.Proofs.YthinmioognadpaaDoor.Opener
open Go.RowKit Go.ChangeShapes Go.WideShapes Go.Deep Go.Proofs.YthinmioognadpaaDoorW.PrintWords
set_option linter.unusedVariables false
set_option linter.unusedSimpArgs false
theorem cells_String : Tryd.prog.cellsOf 9 = 1 := by kernel_rfl
section
variable {H : Type} {enc : TypeId × Value → H} {w : World} {base : Nat} {spare : Nat → Bool} {held : Bool}
def IsString (cs : List Value) : Prop := ∃ s : ByteArray, cs = [.string s]
theorem String_cells {fuel : Nat} {cs : List Value} {x : DataW H × List MemPlace} (h : DataW.trod enc Tryd.prog w base spare held fuel 9 cs = some x) : IsString cs := by
  obtain ⟨a, e, _, _⟩ := DataW.trod_string Tryd.underlying9 h
  exact ⟨a, e⟩
end
/-- A row of cells, each of a kind, read as a list. -/
theorem list_of {α : Type} (d : Kd α) (P : α → Prop) (R : List Value → Prop) (hsz : d.sz = 1) {w : World} (hR : ∀ cs, R cs → ∃ x, d.K w x cs ∧ P x) {b off : Nat} :
    ∀ n : Nat, (∀ i, i < n → ∃ cs, R cs ∧ cs.length = 1 ∧ ∀ j, j < 1 → w.cell? ⟨b, off + (i * 1 + j), none⟩ = cs[j]?) →
    ∃ l : List α, l.length = n ∧ (∀ x, x ∈ l → P x) ∧ ∀ (j : Nat) (p : α), l[j]? = some p → ∃ c : List Value, c.length = d.sz ∧ d.K w p c ∧ ∀ (i : Nat) (u : Value), c[i]? = some u → w.cell? (Addr.add ⟨b, off, none⟩ (j * d.sz + i)) = some u := by
  intro n
  induction n with
  | zero => intro _; exact ⟨[], rfl, fun x h => absurd h (by simp), fun j p h => by simp at h⟩
  | succ n ih =>
    intro h
    obtain ⟨l, hl, hP, hr⟩ := ih (fun i hi => h i (by omega))
    obtain ⟨cs, hc, hlen, hcell⟩ := h n (by omega)
    obtain ⟨x, hx, hp⟩ := hR cs hc
    refine ⟨l ++ [x], by rw [List.length_append, hl]; rfl, fun y hy => ?_, fun j p hjp => ?_⟩
    · rcases List.mem_append.1 hy with h1 | h1
      · exact hP y h1
      · rw [List.mem_singleton] at h1; rw [h1]; exact hp
    · rcases Nat.lt_or_ge j l.length with hj | hj
      · rw [List.getElem?_append_left hj] at hjp
        exact hr j p hjp
      · rw [List.getElem?_append_right hj] at hjp
        obtain ⟨rfl, rfl⟩ : j = n ∧ x = p := by
          rcases Nat.lt_or_ge (j - l.length) 1 with h1 | h1
          · have e : j - l.length = 0 := by omega
            rw [e] at hjp
            exact ⟨by omega, by simpa using hjp⟩
          · rw [List.getElem?_eq_none (by simpa using h1)] at hjp; cases hjp
        refine ⟨cs, by rw [hsz]; exact hlen, hx, fun i u hu => ?_⟩
        have hi : i < 1 := by
          rcases Nat.lt_or_ge i 1 with h1 | h1
          · exact h1
          · rw [List.getElem?_eq_none (by rw [hlen]; exact h1)] at hu; cases hu
        have h2 := hcell i hi
        rw [hu] at h2
        rw [hsz, Go.WideShapes.add_plain]
        exact h2
theorem C_of {α : Type} (d : Kd α) (P : α → Prop) (R : List Value → Prop) (hsz : d.sz = 1) {w : World} (hR : ∀ cs, R cs → ∃ x, d.K w x cs ∧ P x) {A : Option Addr} {len cap : Nat}
    (r : len ≤ cap ∧ cap ≤ maxLen ∧ (0 < len → ∃ b off, A = some ⟨b, off, none⟩ ∧ b < w.heap.size ∧ ∀ i, i < len → ∃ cs, R cs ∧ cs.length = 1 ∧ ∀ j, j < 1 → w.cell? ⟨b, off + (i * 1 + j), none⟩ = cs[j]?)) :
    ∃ l : List α, l.length = len ∧ (∀ x, x ∈ l → P x) ∧ d.C w A l.length l ∧ l.length ≤ cap := by
  obtain ⟨hlc, hcm, hrow⟩ := r
  unfold maxLen at hcm
  by_cases h0 : len = 0
  · exact ⟨[], h0.symm, fun x h => absurd h (by simp), ⟨rfl, by simp, fun h => absurd h (by simp)⟩, by simp⟩
  · obtain ⟨b, off, hA, hb, hc⟩ := hrow (by omega)
    obtain ⟨l, hl, hP, hr⟩ := list_of d P R hsz hR len hc
    exact ⟨l, hl, hP, ⟨rfl, by omega, fun _ => ⟨_, hA, hr⟩⟩, by omega⟩
end Go.Proofs.YthinmioognadpaaDoor.Opener

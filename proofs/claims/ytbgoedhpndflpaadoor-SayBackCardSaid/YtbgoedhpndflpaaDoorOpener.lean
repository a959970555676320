/- Arguments that are structs, and slices of structs, opened to their cells (own text). -/
import Derived.Test.YtbgoedhpndflpaaDoorMem
import Derived.Deep.Slices
import Derived.Deep.Fields
import Derived.ChangeSame
import Derived.OpenShut
import Derived.ProofKit
namespace Go.Proofs.YtbgoedhpndflpaaDoor.Opener
open Go.RowKit Go.ChangeShapes Go.WideShapes Go.Deep
set_option linter.unusedVariables false
set_option linter.unusedSimpArgs false
section
variable {H : Type} {enc : TypeId × Value → H} {P : Program} {w : World} {base : Nat} {spare : Nat → Bool} {held : Bool}
/-- A struct's fields, each read for itself. -/
theorem fields_of {t : TypeId} {fs : Array Field} {fuel : Nat} {cs : List Value} {x : DataW H × List MemPlace} (ht : P.underlying t = some (.struct fs)) (h : DataW.trod enc P w base spare held fuel t cs = some x) :
    cs.length = P.cellsOf t ∧ ∃ n, ∀ (i : Nat) (f : Field), fs[i]? = some f → ∃ y, DataW.trod enc P w base spare held n f.type ((cs.drop f.offset).take (P.cellsOf f.type)) = some y := by
  obtain ⟨xs, n, _, _, hl, hlen, hf⟩ := DataW.trod_struct ht h
  refine ⟨hl, n, fun i f hi => ?_⟩
  have hil : i < xs.length := by
    rw [hlen]
    rcases Nat.lt_or_ge i fs.size with g | g
    · exact g
    · rw [Array.getElem?_eq_none g] at hi; cases hi
  exact ⟨xs[i], by rw [hf i f hi, List.getElem?_eq_getElem hil]⟩
/-- A slice's elements, each its cells at a plain address; R: what the cells of an element are. -/
theorem slice_rows {t e : TypeId} {C : Nat} {R : List Value → Prop} {fuel : Nat} {cs : List Value} {x : DataW H × List MemPlace} (ht : P.underlying t = some (.slice e)) (hC : P.cellsOf e = C) (hpos : 0 < C)
    (hR : ∀ n cs' y, DataW.trod enc P w base spare held n e cs' = some y → R cs') (h : DataW.trod enc P w base spare held fuel t cs = some x) :
    ∃ (a : Option Addr) (len cap : Nat), cs = [.slice a len cap] ∧ len ≤ cap ∧ cap ≤ maxLen ∧ (0 < len → ∃ b off, a = some ⟨b, off, none⟩ ∧ b < w.heap.size ∧
      ∀ i, i < len → ∃ cs', R cs' ∧ cs'.length = C ∧ ∀ j, j < C → w.cell? ⟨b, off + (i * C + j), none⟩ = cs'[j]?) := by
  rcases open_slice ht h with ⟨h0, _⟩ | ⟨a, len, cap, m, n, D, Pl, hcs, hb, hl, hm, hmm, hx, hi⟩
  · exact ⟨none, 0, 0, h0, Nat.le_refl _, by unfold maxLen; omega, fun h => absurd h (by omega)⟩
  · refine ⟨some a, len, cap, hcs, hl, hm, fun hp => ?_⟩
    have hml : len ≤ m := by rw [hmm]; split <;> omega
    rw [hC] at hi
    obtain ⟨b, off, spot⟩ := a
    obtain ⟨cs0, hc0, ht0⟩ := hi 0 (by omega)
    obtain ⟨_, hl0, hat0⟩ := World.cells?_some hc0
    have h00 := hat0 0 hpos
    rw [List.getElem?_eq_getElem (by omega)] at h00
    have hspot : spot = none := by simpa [Addr.add] using World.cell?_spot h00
    subst hspot
    refine ⟨b, off, rfl, ?_, fun i hil => ?_⟩
    · have := World.block_lt_of_cell? w _ h00
      simpa [Addr.add] using this
    · obtain ⟨cs', hc, ht'⟩ := hi i (by omega)
      obtain ⟨_, hcl, hat⟩ := World.cells?_some hc
      refine ⟨cs', hR _ _ _ ht', hcl, fun j hj => ?_⟩
      have := hat j hj
      rw [Go.Deep.add_add, Go.WideShapes.add_plain] at this
      exact this
end
end Go.Proofs.YtbgoedhpndflpaaDoor.Opener

/- A table that is there stays as it is where others turn (own text). -/
import Derived.Test.YtkddaedjgbakkaaSumNew
namespace Go.Proofs.Ytkddaedjgbakkaa.Sum
open Go.RowKit Go.Proofs.Ytkddaedjgbakkaa.Mem Go.Proofs.Ytkddaedjgbakkaa.Once
set_option linter.unusedVariables false
set_option linter.unusedSimpArgs false
theorem tb_chg {w w' : World} {b c : Nat} {d s : Int} {f : Nat → Nat} (h : Tb w b d s f) (k : Chg (fun x => x = c) w w') (hne : b ≠ c) : Tb w' b d s f := by
  have hl := World.block_lt_of_cell? w _ h.c0
  have hb := k.block b hl hne
  have hc : ∀ i, w'.cell? ⟨b, i, none⟩ = w.cell? ⟨b, i, none⟩ := fun i => by unfold World.cell?; simp only [hb]
  have hf : ∀ i, w'.frozen? ⟨b, i, none⟩ = w.frozen? ⟨b, i, none⟩ := fun i => by unfold World.frozen?; simp only [hb]
  exact ⟨(hc 0).trans h.c0, (hc 1).trans h.c1, fun i hi => (hc _).trans (h.cE i hi), fun i hi => (hf _).trans (h.z i hi)⟩
theorem tb_below {w w' : World} {b : Nat} {d s : Int} {f : Nat → Nat} (h : Tb w b d s f) (k : Below w.heap.size w w') : Tb w' b d s f := by
  have hl := World.block_lt_of_cell? w _ h.c0
  have hb := k.block b hl
  have hc : ∀ i, w'.cell? ⟨b, i, none⟩ = w.cell? ⟨b, i, none⟩ := fun i => by unfold World.cell?; simp only [hb]
  have hf : ∀ i, w'.frozen? ⟨b, i, none⟩ = w.frozen? ⟨b, i, none⟩ := fun i => by unfold World.frozen?; simp only [hb]
  exact ⟨(hc 0).trans h.c0, (hc 1).trans h.c1, fun i hi => (hc _).trans (h.cE i hi), fun i hi => (hf _).trans (h.z i hi)⟩
theorem is_chg {w w' : World} {b c : Nat} (h : IsTab w b) (k : Chg (fun x => x = c) w w') (hne : b ≠ c) : IsTab w' b := h.imp (fun h => tb_chg h k hne) (fun h => tb_chg h k hne)
theorem is_below {w w' : World} {b : Nat} (h : IsTab w b) (k : Below w.heap.size w w') : IsTab w' b := h.imp (fun h => tb_below h k) (fun h => tb_below h k)
end Go.Proofs.Ytkddaedjgbakkaa.Sum

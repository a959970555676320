/- Rows of bytes and the texts made of them (own text). -/
import Derived.Test.YtkddaedjgbakkaaSumApp
import Derived.Test.YtkddaedjgbakkaaSumKeep
import Derived.Lib.ConvBytes
import Derived.Lib.SlBytesRow
namespace Go.Proofs.Ytkddaedjgbakkaa.Sum
open Go.RowKit Go.Proofs.Ytkddaedjgbakkaa.Mem Go.Proofs.Ytkddaedjgbakkaa.Once
set_option linter.unusedVariables false
set_option linter.unusedSimpArgs false
/-- The text of n bytes f 0, f 1, .. -/
def ofB (n : Nat) (f : Nat → Nat) : ByteArray := ⟨Array.ofFn (fun i : Fin n => UInt8.ofNat (f i))⟩
theorem ofB_size (n : Nat) (f : Nat → Nat) : (ofB n f).size = n := by
  show (Array.ofFn _).size = n
  simp
theorem ofB_at (n : Nat) (f : Nat → Nat) (k : Nat) (h : k < n) (hf : f k < 256) : by' (ofB n f) k = f k := by
  unfold by'
  rw [dif_pos (by rw [ofB_size]; exact h)]
  have e : (ofB n f)[k]'(by rw [ofB_size]; exact h) = UInt8.ofNat (f k) := Array.getElem_ofFn (by simpa using h)
  rw [e, UInt8.toNat_ofNat']
  omega
/-- A row of n bytes in block b. -/
structure Row (w : World) (b n : Nat) (f : Nat → Nat) : Prop where
  c : ∀ i, i < n → w.cell? ⟨b, i, none⟩ = some (.int .u8 (f i))
  z : ∀ i, i < n → w.frozen? ⟨b, i, none⟩ = false
  l : ∀ i, f i < 256
  s : b < w.heap.size
theorem row_conv {w : World} {b n cap : Nat} {f : Nat → Nat} (h : Row w b n f) :
    (convert 43 9 (.slice (some ⟨b, 0, none⟩) n cap)).run Try.prog w = .ok (.string (ofB n f)) w := by
  have hb : Lib.Bytes w b 0 (ofB n f) := by
    intro i hi
    have hn : i < n := by rw [ofB_size] at hi; exact hi
    rw [Nat.zero_add, h.c i hn]
    have := by_at (ofB n f) i hi
    rw [ofB_at n f i hn (h.l i)] at this
    rw [this]
  have := Lib.run_convert_whole (P := Try.prog) w 43 5 9 rfl rfl rfl b 0 (ofB n f) hb cap
  rwa [ofB_size] at this
theorem row_set {w : World} {b n k v : Nat} {f : Nat → Nat} (h : Row w b n f) (hk : k < n) (hv : v < 256) : Row (w.setCell ⟨b, k, none⟩ (.int .u8 v)) b n (fun i => if i = k then v else f i) := by
  refine ⟨fun i hi => ?_, fun i hi => ?_, fun i => ?_, by simp only [World.setCell, Array.size_modify]; exact h.s⟩
  · by_cases e : i = k
    · subst e
      simp only [if_true]
      exact World.cell?_setCell_same w _ _ (h.c i hi)
    · simp only [if_neg e]
      exact (World.cell?_setCell_other w ⟨b, k, none⟩ ⟨b, i, none⟩ _ (by first | (simp; done) | (simp; omega))).trans (h.c i hi)
  · rw [World.frozen?_setCell]; exact h.z i hi
  · show (if i = k then v else f i) < 256
    split
    · exact hv
    · exact h.l i
theorem row_chg {w w' : World} {b n c : Nat} {f : Nat → Nat} (h : Row w b n f) (k : Chg (fun x => x = c) w w') (hne : b ≠ c) : Row w' b n f := by
  have hb := k.block b h.s hne
  have hc : ∀ i, w'.cell? ⟨b, i, none⟩ = w.cell? ⟨b, i, none⟩ := fun i => by unfold World.cell?; simp only [hb]
  have hf : ∀ i, w'.frozen? ⟨b, i, none⟩ = w.frozen? ⟨b, i, none⟩ := fun i => by unfold World.frozen?; simp only [hb]
  exact ⟨fun i hi => (hc i).trans (h.c i hi), fun i hi => (hf i).trans (h.z i hi), h.l, Nat.lt_of_lt_of_le h.s k.size⟩
theorem row_below {w w' : World} {b n : Nat} {f : Nat → Nat} (h : Row w b n f) (k : Below w.heap.size w w') : Row w' b n f := by
  have hb := k.block b h.s
  have hc : ∀ i, w'.cell? ⟨b, i, none⟩ = w.cell? ⟨b, i, none⟩ := fun i => by unfold World.cell?; simp only [hb]
  have hf : ∀ i, w'.frozen? ⟨b, i, none⟩ = w.frozen? ⟨b, i, none⟩ := fun i => by unfold World.frozen?; simp only [hb]
  exact ⟨fun i hi => (hc i).trans (h.c i hi), fun i hi => (hf i).trans (h.z i hi), h.l, Nat.lt_of_lt_of_le h.s k.size⟩
/-- '[]byte(s)': a new row; what was there is there. -/
theorem row_bytes (w : World) (s : ByteArray) : Row (Lib.bytesWorld w 5 s) w.heap.size s.size (by' s) := by
  have hn := Lib.bytesWorld_at_new w 5 s
  refine ⟨fun i hi => ?_, fun i hi => ?_, by_lt s, by rw [Lib.bytesWorld_size]; omega⟩
  · rw [Lib.bytesWorld_cell w 5 s i hi]
    have := by_at s i hi
    rw [← this, List.getD_eq_getElem?_getD]
    congr 3
    rw [List.getElem?_eq_getElem (by simpa using hi)]
    simp
    rfl
  · unfold World.frozen?
    rw [hn]
    simp
    intro h
    have : i < (Lib.bytesCells w 5 s).size := by
      unfold Lib.bytesCells
      rw [Array.size_append, Array.size_map]
      have : s.data.size = s.size := rfl
      omega
    omega
theorem below_bytes (w : World) (s : ByteArray) : Below w.heap.size w (Lib.bytesWorld w 5 s) := by
  refine ⟨?_, ?_, ?_, ?_, ?_⟩
  · simp [Lib.bytesWorld, World.freeze, World.alloc, World.drew, -World.alloc_eq, -World.drew_eq]
  · simp [Lib.bytesWorld, World.freeze, World.alloc, World.drew, -World.alloc_eq, -World.drew_eq]
  · simp [Lib.bytesWorld, World.freeze, World.alloc, World.drew, -World.alloc_eq, -World.drew_eq]
  · rw [Lib.bytesWorld_size]; omega
  · intro i hi
    exact Lib.bytesWorld_at_old w _ s i hi
end Go.Proofs.Ytkddaedjgbakkaa.Sum

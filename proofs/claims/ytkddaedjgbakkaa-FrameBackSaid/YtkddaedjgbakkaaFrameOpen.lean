/- Struct arguments opened to their cells: Frame (printed by wip/tools/genopen.py, a program of this session). -/
import Derived.Test.YtkddaedjgbakkaaOpener
namespace Go.Proofs.Ytkddaedjgbakkaa.Opener
open Go.RowKit Go.ChangeShapes Go.WideShapes Go.Deep
set_option linter.unusedVariables false
set_option linter.unusedSimpArgs false
theorem cells_string : Try.prog.cellsOf 9 = 1 := by kernel_rfl
theorem cells_u8 : Try.prog.cellsOf 5 = 1 := by kernel_rfl
theorem cells_Frame : Try.prog.cellsOf 23 = 4 := by kernel_rfl
section
variable {H : Type} {enc : TypeId × Value → H} {w : World} {base : Nat} {spare : Nat → Bool} {held : Bool}
/-- The cells of a Frame. -/
def IsFrame (cs : List Value) : Prop := ∃ (kind : Int) (fr : Int) (to : Int) (body : ByteArray), cs = [.int .u8 kind, .int .u8 fr, .int .u8 to, .string body] ∧ (0 ≤ kind ∧ kind ≤ 255) ∧ (0 ≤ fr ∧ fr ≤ 255) ∧ (0 ≤ to ∧ to ≤ 255) ∧ (body.size ≤ maxLen)
theorem Frame_cells {fuel : Nat} {cs : List Value} {x : DataW H × List MemPlace} (h : DataW.trod enc Try.prog w base spare held fuel 23 cs = some x) : IsFrame cs := by
  obtain ⟨hl, n, hf⟩ := fields_of Try.underlying23 h
  rw [cells_Frame] at hl
  match cs, hl with
  | [c0, c1, c2, c3], _ =>
    obtain ⟨y0, h0⟩ := hf 0 _ rfl
    replace h0 : DataW.trod enc Try.prog w base spare held n 5 (List.take (Try.prog.cellsOf 5) (List.drop 0 [c0, c1, c2, c3])) = some y0 := h0
    rw [cells_u8] at h0
    replace h0 : DataW.trod enc Try.prog w base spare held n 5 [c0] = some y0 := h0
    obtain ⟨a0, e0, _, w0⟩ := DataW.trod_int Try.underlying5 h0
    obtain ⟨y1, h1⟩ := hf 1 _ rfl
    replace h1 : DataW.trod enc Try.prog w base spare held n 5 (List.take (Try.prog.cellsOf 5) (List.drop 1 [c0, c1, c2, c3])) = some y1 := h1
    rw [cells_u8] at h1
    replace h1 : DataW.trod enc Try.prog w base spare held n 5 [c1] = some y1 := h1
    obtain ⟨a1, e1, _, w1⟩ := DataW.trod_int Try.underlying5 h1
    obtain ⟨y2, h2⟩ := hf 2 _ rfl
    replace h2 : DataW.trod enc Try.prog w base spare held n 5 (List.take (Try.prog.cellsOf 5) (List.drop 2 [c0, c1, c2, c3])) = some y2 := h2
    rw [cells_u8] at h2
    replace h2 : DataW.trod enc Try.prog w base spare held n 5 [c2] = some y2 := h2
    obtain ⟨a2, e2, _, w2⟩ := DataW.trod_int Try.underlying5 h2
    obtain ⟨y3, h3⟩ := hf 3 _ rfl
    replace h3 : DataW.trod enc Try.prog w base spare held n 9 (List.take (Try.prog.cellsOf 9) (List.drop 3 [c0, c1, c2, c3])) = some y3 := h3
    rw [cells_string] at h3
    replace h3 : DataW.trod enc Try.prog w base spare held n 9 [c3] = some y3 := h3
    obtain ⟨a3, e3, _, w3⟩ := DataW.trod_string Try.underlying9 h3
    cases e0
    cases e1
    cases e2
    cases e3
    exact ⟨a0, a1, a2, a3, rfl, bounds_u8 w0, bounds_u8 w1, bounds_u8 w2, w3⟩
theorem Frame_value {r : Reach} {b0 : Nat} {v : Value} {d : DataW H} {p : List MemPlace} (hv : Value.okWide Try.prog w r b0 23 v) (h : DataW.Trod enc Try.prog w base spare held 23 v d p) :
    ∃ (kind : Int) (fr : Int) (to : Int) (body : ByteArray), v = .agg #[.int .u8 kind, .int .u8 fr, .int .u8 to, .string body] ∧ (0 ≤ kind ∧ kind ≤ 255) ∧ (0 ≤ fr ∧ fr ≤ 255) ∧ (0 ≤ to ∧ to ≤ 255) ∧ (body.size ≤ maxLen) := by
  obtain ⟨cs, rfl, hsz⟩ := okWide_struct Try.underlying23 hv
  obtain ⟨fuel, hf⟩ := h
  obtain ⟨z0, z1, z2, z3, e, hb⟩ := Frame_cells hf
  refine ⟨z0, z1, z2, z3, ?_, hb⟩
  obtain ⟨l'⟩ := cs
  rw [show l' = _ from e]
end
end Go.Proofs.Ytkddaedjgbakkaa.Opener

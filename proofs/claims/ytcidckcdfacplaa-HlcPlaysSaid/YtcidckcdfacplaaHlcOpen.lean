/- Struct arguments opened to their cells: Stamp, HOp (printed by wip/tools/genopen.py, a program of this session). -/
import Derived.Test.YtcidckcdfacplaaOpener
namespace Go.Proofs.Ytcidckcdfacplaa.Opener
open Go.RowKit Go.ChangeShapes Go.WideShapes Go.Deep
set_option linter.unusedVariables false
set_option linter.unusedSimpArgs false
theorem cells_i64 : Try.prog.cellsOf 3 = 1 := by kernel_rfl
theorem cells_u32 : Try.prog.cellsOf 23 = 1 := by kernel_rfl
theorem cells_u64 : Try.prog.cellsOf 22 = 1 := by kernel_rfl
theorem cells_u8 : Try.prog.cellsOf 5 = 1 := by kernel_rfl
theorem cells_Stamp : Try.prog.cellsOf 25 = 3 := by kernel_rfl
theorem cells_HOp : Try.prog.cellsOf 40 = 5 := by kernel_rfl
section
variable {H : Type} {enc : TypeId × Value → H} {w : World} {base : Nat} {spare : Nat → Bool} {held : Bool}
/-- The cells of a Stamp. -/
def IsStamp (cs : List Value) : Prop := ∃ (p : Int) (l : Int) (n : Int), cs = [.int .u64 p, .int .u32 l, .int .u8 n] ∧ (0 ≤ p ∧ p ≤ 18446744073709551615) ∧ (0 ≤ l ∧ l ≤ 4294967295) ∧ (0 ≤ n ∧ n ≤ 255)
theorem Stamp_cells {fuel : Nat} {cs : List Value} {x : DataW H × List MemPlace} (h : DataW.trod enc Try.prog w base spare held fuel 25 cs = some x) : IsStamp cs := by
  obtain ⟨hl, n, hf⟩ := fields_of Try.underlying25 h
  rw [cells_Stamp] at hl
  match cs, hl with
  | [c0, c1, c2], _ =>
    obtain ⟨y0, h0⟩ := hf 0 _ rfl
    replace h0 : DataW.trod enc Try.prog w base spare held n 22 (List.take (Try.prog.cellsOf 22) (List.drop 0 [c0, c1, c2])) = some y0 := h0
    rw [cells_u64] at h0
    replace h0 : DataW.trod enc Try.prog w base spare held n 22 [c0] = some y0 := h0
    obtain ⟨a0, e0, _, w0⟩ := DataW.trod_int Try.underlying22 h0
    obtain ⟨y1, h1⟩ := hf 1 _ rfl
    replace h1 : DataW.trod enc Try.prog w base spare held n 23 (List.take (Try.prog.cellsOf 23) (List.drop 1 [c0, c1, c2])) = some y1 := h1
    rw [cells_u32] at h1
    replace h1 : DataW.trod enc Try.prog w base spare held n 23 [c1] = some y1 := h1
    obtain ⟨a1, e1, _, w1⟩ := DataW.trod_int Try.underlying23 h1
    obtain ⟨y2, h2⟩ := hf 2 _ rfl
    replace h2 : DataW.trod enc Try.prog w base spare held n 5 (List.take (Try.prog.cellsOf 5) (List.drop 2 [c0, c1, c2])) = some y2 := h2
    rw [cells_u8] at h2
    replace h2 : DataW.trod enc Try.prog w base spare held n 5 [c2] = some y2 := h2
    obtain ⟨a2, e2, _, w2⟩ := DataW.trod_int Try.underlying5 h2
    cases e0
    cases e1
    cases e2
    exact ⟨a0, a1, a2, rfl, bounds_u64 w0, bounds_u32 w1, bounds_u8 w2⟩
theorem Stamp_value {r : Reach} {b0 : Nat} {v : Value} {d : DataW H} {p : List MemPlace} (hv : Value.okWide Try.prog w r b0 25 v) (h : DataW.Trod enc Try.prog w base spare held 25 v d p) :
    ∃ (p : Int) (l : Int) (n : Int), v = .agg #[.int .u64 p, .int .u32 l, .int .u8 n] ∧ (0 ≤ p ∧ p ≤ 18446744073709551615) ∧ (0 ≤ l ∧ l ≤ 4294967295) ∧ (0 ≤ n ∧ n ≤ 255) := by
  obtain ⟨cs, rfl, hsz⟩ := okWide_struct Try.underlying25 hv
  obtain ⟨fuel, hf⟩ := h
  obtain ⟨z0, z1, z2, e, hb⟩ := Stamp_cells hf
  refine ⟨z0, z1, z2, ?_, hb⟩
  obtain ⟨l'⟩ := cs
  rw [show l' = _ from e]
/-- The cells of a HOp. -/
def IsHOp (cs : List Value) : Prop := ∃ (k : Int) (m : Int) (s_p : Int) (s_l : Int) (s_n : Int), cs = [.int .i64 k, .int .i64 m, .int .u64 s_p, .int .u32 s_l, .int .u8 s_n] ∧ (-9223372036854775808 ≤ k ∧ k ≤ 9223372036854775807) ∧ (-9223372036854775808 ≤ m ∧ m ≤ 9223372036854775807) ∧ (0 ≤ s_p ∧ s_p ≤ 18446744073709551615) ∧ (0 ≤ s_l ∧ s_l ≤ 4294967295) ∧ (0 ≤ s_n ∧ s_n ≤ 255)
theorem HOp_cells {fuel : Nat} {cs : List Value} {x : DataW H × List MemPlace} (h : DataW.trod enc Try.prog w base spare held fuel 40 cs = some x) : IsHOp cs := by
  obtain ⟨hl, n, hf⟩ := fields_of Try.underlying40 h
  rw [cells_HOp] at hl
  match cs, hl with
  | [c0, c1, c2, c3, c4], _ =>
    obtain ⟨y0, h0⟩ := hf 0 _ rfl
    replace h0 : DataW.trod enc Try.prog w base spare held n 3 (List.take (Try.prog.cellsOf 3) (List.drop 0 [c0, c1, c2, c3, c4])) = some y0 := h0
    rw [cells_i64] at h0
    replace h0 : DataW.trod enc Try.prog w base spare held n 3 [c0] = some y0 := h0
    obtain ⟨a0, e0, _, w0⟩ := DataW.trod_int Try.underlying3 h0
    obtain ⟨y1, h1⟩ := hf 1 _ rfl
    replace h1 : DataW.trod enc Try.prog w base spare held n 3 (List.take (Try.prog.cellsOf 3) (List.drop 1 [c0, c1, c2, c3, c4])) = some y1 := h1
    rw [cells_i64] at h1
    replace h1 : DataW.trod enc Try.prog w base spare held n 3 [c1] = some y1 := h1
    obtain ⟨a1, e1, _, w1⟩ := DataW.trod_int Try.underlying3 h1
    obtain ⟨y2, h2⟩ := hf 2 _ rfl
    replace h2 : DataW.trod enc Try.prog w base spare held n 25 (List.take (Try.prog.cellsOf 25) (List.drop 2 [c0, c1, c2, c3, c4])) = some y2 := h2
    rw [cells_Stamp] at h2
    replace h2 : DataW.trod enc Try.prog w base spare held n 25 [c2, c3, c4] = some y2 := h2
    obtain ⟨a2_0, a2_1, a2_2, e2, b2_0, b2_1, b2_2⟩ := Stamp_cells h2
    cases e0
    cases e1
    cases e2
    exact ⟨a0, a1, a2_0, a2_1, a2_2, rfl, bounds_i64 w0, bounds_i64 w1, b2_0, b2_1, b2_2⟩
theorem HOp_value {r : Reach} {b0 : Nat} {v : Value} {d : DataW H} {p : List MemPlace} (hv : Value.okWide Try.prog w r b0 40 v) (h : DataW.Trod enc Try.prog w base spare held 40 v d p) :
    ∃ (k : Int) (m : Int) (s_p : Int) (s_l : Int) (s_n : Int), v = .agg #[.int .i64 k, .int .i64 m, .int .u64 s_p, .int .u32 s_l, .int .u8 s_n] ∧ (-9223372036854775808 ≤ k ∧ k ≤ 9223372036854775807) ∧ (-9223372036854775808 ≤ m ∧ m ≤ 9223372036854775807) ∧ (0 ≤ s_p ∧ s_p ≤ 18446744073709551615) ∧ (0 ≤ s_l ∧ s_l ≤ 4294967295) ∧ (0 ≤ s_n ∧ s_n ≤ 255) := by
  obtain ⟨cs, rfl, hsz⟩ := okWide_struct Try.underlying40 hv
  obtain ⟨fuel, hf⟩ := h
  obtain ⟨z0, z1, z2, z3, z4, e, hb⟩ := HOp_cells hf
  refine ⟨z0, z1, z2, z3, z4, ?_, hb⟩
  obtain ⟨l'⟩ := cs
  rw [show l' = _ from e]
end
end Go.Proofs.Ytcidckcdfacplaa.Opener

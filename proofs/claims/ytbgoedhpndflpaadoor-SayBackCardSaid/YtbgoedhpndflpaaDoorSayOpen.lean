/- Struct arguments opened to their cells: Stamp, Rec (printed by wip/tools/genopen.py, a program of this session). -/
import Derived.Test.YtbgoedhpndflpaaDoorOpener
namespace Go.Proofs.YtbgoedhpndflpaaDoor.Opener
open Go.RowKit Go.ChangeShapes Go.WideShapes Go.Deep
set_option linter.unusedVariables false
set_option linter.unusedSimpArgs false
theorem cells_string : Tryd.prog.cellsOf 9 = 1 := by kernel_rfl
theorem cells_u32 : Tryd.prog.cellsOf 26 = 1 := by kernel_rfl
theorem cells_u64 : Tryd.prog.cellsOf 25 = 1 := by kernel_rfl
theorem cells_u8 : Tryd.prog.cellsOf 5 = 1 := by kernel_rfl
theorem cells_Stamp : Tryd.prog.cellsOf 28 = 3 := by kernel_rfl
theorem cells_Rec : Tryd.prog.cellsOf 30 = 8 := by kernel_rfl
section
variable {H : Type} {enc : TypeId × Value → H} {w : World} {base : Nat} {spare : Nat → Bool} {held : Bool}
/-- The cells of a Stamp. -/
def IsStamp (cs : List Value) : Prop := ∃ (p : Int) (l : Int) (n : Int), cs = [.int .u64 p, .int .u32 l, .int .u8 n] ∧ (0 ≤ p ∧ p ≤ 18446744073709551615) ∧ (0 ≤ l ∧ l ≤ 4294967295) ∧ (0 ≤ n ∧ n ≤ 255)
theorem Stamp_cells {fuel : Nat} {cs : List Value} {x : DataW H × List MemPlace} (h : DataW.trod enc Tryd.prog w base spare held fuel 28 cs = some x) : IsStamp cs := by
  obtain ⟨hl, n, hf⟩ := fields_of Tryd.underlying28 h
  rw [cells_Stamp] at hl
  match cs, hl with
  | [c0, c1, c2], _ =>
    obtain ⟨y0, h0⟩ := hf 0 _ rfl
    replace h0 : DataW.trod enc Tryd.prog w base spare held n 25 (List.take (Tryd.prog.cellsOf 25) (List.drop 0 [c0, c1, c2])) = some y0 := h0
    rw [cells_u64] at h0
    replace h0 : DataW.trod enc Tryd.prog w base spare held n 25 [c0] = some y0 := h0
    obtain ⟨a0, e0, _, w0⟩ := DataW.trod_int Tryd.underlying25 h0
    obtain ⟨y1, h1⟩ := hf 1 _ rfl
    replace h1 : DataW.trod enc Tryd.prog w base spare held n 26 (List.take (Tryd.prog.cellsOf 26) (List.drop 1 [c0, c1, c2])) = some y1 := h1
    rw [cells_u32] at h1
    replace h1 : DataW.trod enc Tryd.prog w base spare held n 26 [c1] = some y1 := h1
    obtain ⟨a1, e1, _, w1⟩ := DataW.trod_int Tryd.underlying26 h1
    obtain ⟨y2, h2⟩ := hf 2 _ rfl
    replace h2 : DataW.trod enc Tryd.prog w base spare held n 5 (List.take (Tryd.prog.cellsOf 5) (List.drop 2 [c0, c1, c2])) = some y2 := h2
    rw [cells_u8] at h2
    replace h2 : DataW.trod enc Tryd.prog w base spare held n 5 [c2] = some y2 := h2
    obtain ⟨a2, e2, _, w2⟩ := DataW.trod_int Tryd.underlying5 h2
    cases e0
    cases e1
    cases e2
    exact ⟨a0, a1, a2, rfl, bounds_u64 w0, bounds_u32 w1, bounds_u8 w2⟩
theorem Stamp_value {r : Reach} {b0 : Nat} {v : Value} {d : DataW H} {p : List MemPlace} (hv : Value.okWide Tryd.prog w r b0 28 v) (h : DataW.Trod enc Tryd.prog w base spare held 28 v d p) :
    ∃ (p : Int) (l : Int) (n : Int), v = .agg #[.int .u64 p, .int .u32 l, .int .u8 n] ∧ (0 ≤ p ∧ p ≤ 18446744073709551615) ∧ (0 ≤ l ∧ l ≤ 4294967295) ∧ (0 ≤ n ∧ n ≤ 255) := by
  obtain ⟨cs, rfl, hsz⟩ := okWide_struct Tryd.underlying28 hv
  obtain ⟨fuel, hf⟩ := h
  obtain ⟨z0, z1, z2, e, hb⟩ := Stamp_cells hf
  refine ⟨z0, z1, z2, ?_, hb⟩
  obtain ⟨l'⟩ := cs
  rw [show l' = _ from e]
/-- The cells of a Rec. -/
def IsRec (cs : List Value) : Prop := ∃ (key : ByteArray) (s_p : Int) (s_l : Int) (s_n : Int) (kind : Int) (flags : Int) (expiry : Int) (body : ByteArray), cs = [.string key, .int .u64 s_p, .int .u32 s_l, .int .u8 s_n, .int .u8 kind, .int .u32 flags, .int .u64 expiry, .string body] ∧ (key.size ≤ maxLen) ∧ (0 ≤ s_p ∧ s_p ≤ 18446744073709551615) ∧ (0 ≤ s_l ∧ s_l ≤ 4294967295) ∧ (0 ≤ s_n ∧ s_n ≤ 255) ∧ (0 ≤ kind ∧ kind ≤ 255) ∧ (0 ≤ flags ∧ flags ≤ 4294967295) ∧ (0 ≤ expiry ∧ expiry ≤ 18446744073709551615) ∧ (body.size ≤ maxLen)
theorem Rec_cells {fuel : Nat} {cs : List Value} {x : DataW H × List MemPlace} (h : DataW.trod enc Tryd.prog w base spare held fuel 30 cs = some x) : IsRec cs := by
  obtain ⟨hl, n, hf⟩ := fields_of Tryd.underlying30 h
  rw [cells_Rec] at hl
  match cs, hl with
  | [c0, c1, c2, c3, c4, c5, c6, c7], _ =>
    obtain ⟨y0, h0⟩ := hf 0 _ rfl
    replace h0 : DataW.trod enc Tryd.prog w base spare held n 9 (List.take (Tryd.prog.cellsOf 9) (List.drop 0 [c0, c1, c2, c3, c4, c5, c6, c7])) = some y0 := h0
    rw [cells_string] at h0
    replace h0 : DataW.trod enc Tryd.prog w base spare held n 9 [c0] = some y0 := h0
    obtain ⟨a0, e0, _, w0⟩ := DataW.trod_string Tryd.underlying9 h0
    obtain ⟨y1, h1⟩ := hf 1 _ rfl
    replace h1 : DataW.trod enc Tryd.prog w base spare held n 28 (List.take (Tryd.prog.cellsOf 28) (List.drop 1 [c0, c1, c2, c3, c4, c5, c6, c7])) = some y1 := h1
    rw [cells_Stamp] at h1
    replace h1 : DataW.trod enc Tryd.prog w base spare held n 28 [c1, c2, c3] = some y1 := h1
    obtain ⟨a1_0, a1_1, a1_2, e1, b1_0, b1_1, b1_2⟩ := Stamp_cells h1
    obtain ⟨y2, h2⟩ := hf 2 _ rfl
    replace h2 : DataW.trod enc Tryd.prog w base spare held n 5 (List.take (Tryd.prog.cellsOf 5) (List.drop 4 [c0, c1, c2, c3, c4, c5, c6, c7])) = some y2 := h2
    rw [cells_u8] at h2
    replace h2 : DataW.trod enc Tryd.prog w base spare held n 5 [c4] = some y2 := h2
    obtain ⟨a2, e2, _, w2⟩ := DataW.trod_int Tryd.underlying5 h2
    obtain ⟨y3, h3⟩ := hf 3 _ rfl
    replace h3 : DataW.trod enc Tryd.prog w base spare held n 26 (List.take (Tryd.prog.cellsOf 26) (List.drop 5 [c0, c1, c2, c3, c4, c5, c6, c7])) = some y3 := h3
    rw [cells_u32] at h3
    replace h3 : DataW.trod enc Tryd.prog w base spare held n 26 [c5] = some y3 := h3
    obtain ⟨a3, e3, _, w3⟩ := DataW.trod_int Tryd.underlying26 h3
    obtain ⟨y4, h4⟩ := hf 4 _ rfl
    replace h4 : DataW.trod enc Tryd.prog w base spare held n 25 (List.take (Tryd.prog.cellsOf 25) (List.drop 6 [c0, c1, c2, c3, c4, c5, c6, c7])) = some y4 := h4
    rw [cells_u64] at h4
    replace h4 : DataW.trod enc Tryd.prog w base spare held n 25 [c6] = some y4 := h4
    obtain ⟨a4, e4, _, w4⟩ := DataW.trod_int Tryd.underlying25 h4
    obtain ⟨y5, h5⟩ := hf 5 _ rfl
    replace h5 : DataW.trod enc Tryd.prog w base spare held n 9 (List.take (Tryd.prog.cellsOf 9) (List.drop 7 [c0, c1, c2, c3, c4, c5, c6, c7])) = some y5 := h5
    rw [cells_string] at h5
    replace h5 : DataW.trod enc Tryd.prog w base spare held n 9 [c7] = some y5 := h5
    obtain ⟨a5, e5, _, w5⟩ := DataW.trod_string Tryd.underlying9 h5
    cases e0
    cases e1
    cases e2
    cases e3
    cases e4
    cases e5
    exact ⟨a0, a1_0, a1_1, a1_2, a2, a3, a4, a5, rfl, w0, b1_0, b1_1, b1_2, bounds_u8 w2, bounds_u32 w3, bounds_u64 w4, w5⟩
theorem Rec_value {r : Reach} {b0 : Nat} {v : Value} {d : DataW H} {p : List MemPlace} (hv : Value.okWide Tryd.prog w r b0 30 v) (h : DataW.Trod enc Tryd.prog w base spare held 30 v d p) :
    ∃ (key : ByteArray) (s_p : Int) (s_l : Int) (s_n : Int) (kind : Int) (flags : Int) (expiry : Int) (body : ByteArray), v = .agg #[.string key, .int .u64 s_p, .int .u32 s_l, .int .u8 s_n, .int .u8 kind, .int .u32 flags, .int .u64 expiry, .string body] ∧ (key.size ≤ maxLen) ∧ (0 ≤ s_p ∧ s_p ≤ 18446744073709551615) ∧ (0 ≤ s_l ∧ s_l ≤ 4294967295) ∧ (0 ≤ s_n ∧ s_n ≤ 255) ∧ (0 ≤ kind ∧ kind ≤ 255) ∧ (0 ≤ flags ∧ flags ≤ 4294967295) ∧ (0 ≤ expiry ∧ expiry ≤ 18446744073709551615) ∧ (body.size ≤ maxLen) := by
  obtain ⟨cs, rfl, hsz⟩ := okWide_struct Tryd.underlying30 hv
  obtain ⟨fuel, hf⟩ := h
  obtain ⟨z0, z1, z2, z3, z4, z5, z6, z7, e, hb⟩ := Rec_cells hf
  refine ⟨z0, z1, z2, z3, z4, z5, z6, z7, ?_, hb⟩
  obtain ⟨l'⟩ := cs
  rw [show l' = _ from e]
end
end Go.Proofs.YtbgoedhpndflpaaDoor.Opener

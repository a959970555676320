/- Struct arguments opened to their cells: Stamp, Rec, Reply, AOp (printed by wip/tools/genopen.py, a program of this session). -/
import Derived.Test.YtnbcbokdbenbiaaOpener
namespace Go.Proofs.Ytnbcbokdbenbiaa.Opener
open Go.RowKit Go.ChangeShapes Go.WideShapes Go.Deep
set_option linter.unusedVariables false
set_option linter.unusedSimpArgs false
theorem cells_bool : Try.prog.cellsOf 4 = 1 := by kernel_rfl
theorem cells_string : Try.prog.cellsOf 9 = 1 := by kernel_rfl
theorem cells_u32 : Try.prog.cellsOf 28 = 1 := by kernel_rfl
theorem cells_u64 : Try.prog.cellsOf 27 = 1 := by kernel_rfl
theorem cells_u8 : Try.prog.cellsOf 5 = 1 := by kernel_rfl
theorem cells_Stamp : Try.prog.cellsOf 30 = 3 := by kernel_rfl
theorem cells_Rec : Try.prog.cellsOf 32 = 8 := by kernel_rfl
theorem cells_Reply : Try.prog.cellsOf 34 = 10 := by kernel_rfl
theorem cells_AOp : Try.prog.cellsOf 36 = 11 := by kernel_rfl
section
variable {H : Type} {enc : TypeId × Value → H} {w : World} {base : Nat} {spare : Nat → Bool} {held : Bool}
/-- The cells of a Stamp. -/
def IsStamp (cs : List Value) : Prop := ∃ (p : Int) (l : Int) (n : Int), cs = [.int .u64 p, .int .u32 l, .int .u8 n] ∧ (0 ≤ p ∧ p ≤ 18446744073709551615) ∧ (0 ≤ l ∧ l ≤ 4294967295) ∧ (0 ≤ n ∧ n ≤ 255)
theorem Stamp_cells {fuel : Nat} {cs : List Value} {x : DataW H × List MemPlace} (h : DataW.trod enc Try.prog w base spare held fuel 30 cs = some x) : IsStamp cs := by
  obtain ⟨hl, n, hf⟩ := fields_of Try.underlying30 h
  rw [cells_Stamp] at hl
  match cs, hl with
  | [c0, c1, c2], _ =>
    obtain ⟨y0, h0⟩ := hf 0 _ rfl
    replace h0 : DataW.trod enc Try.prog w base spare held n 27 (List.take (Try.prog.cellsOf 27) (List.drop 0 [c0, c1, c2])) = some y0 := h0
    rw [cells_u64] at h0
    replace h0 : DataW.trod enc Try.prog w base spare held n 27 [c0] = some y0 := h0
    obtain ⟨a0, e0, _, w0⟩ := DataW.trod_int Try.underlying27 h0
    obtain ⟨y1, h1⟩ := hf 1 _ rfl
    replace h1 : DataW.trod enc Try.prog w base spare held n 28 (List.take (Try.prog.cellsOf 28) (List.drop 1 [c0, c1, c2])) = some y1 := h1
    rw [cells_u32] at h1
    replace h1 : DataW.trod enc Try.prog w base spare held n 28 [c1] = some y1 := h1
    obtain ⟨a1, e1, _, w1⟩ := DataW.trod_int Try.underlying28 h1
    obtain ⟨y2, h2⟩ := hf 2 _ rfl
    replace h2 : DataW.trod enc Try.prog w base spare held n 5 (List.take (Try.prog.cellsOf 5) (List.drop 2 [c0, c1, c2])) = some y2 := h2
    rw [cells_u8] at h2
    replace h2 : DataW.trod enc Try.prog w base spare held n 5 [c2] = some y2 := h2
    obtain ⟨a2, e2, _, w2⟩ := DataW.trod_int Try.underlying5 h2
    cases e0
    cases e1
    cases e2
    exact ⟨a0, a1, a2, rfl, bounds_u64 w0, bounds_u32 w1, bounds_u8 w2⟩
theorem Stamp_value {r : Reach} {b0 : Nat} {v : Value} {d : DataW H} {p : List MemPlace} (hv : Value.okWide Try.prog w r b0 30 v) (h : DataW.Trod enc Try.prog w base spare held 30 v d p) :
    ∃ (p : Int) (l : Int) (n : Int), v = .agg #[.int .u64 p, .int .u32 l, .int .u8 n] ∧ (0 ≤ p ∧ p ≤ 18446744073709551615) ∧ (0 ≤ l ∧ l ≤ 4294967295) ∧ (0 ≤ n ∧ n ≤ 255) := by
  obtain ⟨cs, rfl, hsz⟩ := okWide_struct Try.underlying30 hv
  obtain ⟨fuel, hf⟩ := h
  obtain ⟨z0, z1, z2, e, hb⟩ := Stamp_cells hf
  refine ⟨z0, z1, z2, ?_, hb⟩
  obtain ⟨l'⟩ := cs
  rw [show l' = _ from e]
/-- The cells of a Rec. -/
def IsRec (cs : List Value) : Prop := ∃ (key : ByteArray) (s_p : Int) (s_l : Int) (s_n : Int) (kind : Int) (flags : Int) (expiry : Int) (body : ByteArray), cs = [.string key, .int .u64 s_p, .int .u32 s_l, .int .u8 s_n, .int .u8 kind, .int .u32 flags, .int .u64 expiry, .string body] ∧ (key.size ≤ maxLen) ∧ (0 ≤ s_p ∧ s_p ≤ 18446744073709551615) ∧ (0 ≤ s_l ∧ s_l ≤ 4294967295) ∧ (0 ≤ s_n ∧ s_n ≤ 255) ∧ (0 ≤ kind ∧ kind ≤ 255) ∧ (0 ≤ flags ∧ flags ≤ 4294967295) ∧ (0 ≤ expiry ∧ expiry ≤ 18446744073709551615) ∧ (body.size ≤ maxLen)
theorem Rec_cells {fuel : Nat} {cs : List Value} {x : DataW H × List MemPlace} (h : DataW.trod enc Try.prog w base spare held fuel 32 cs = some x) : IsRec cs := by
  obtain ⟨hl, n, hf⟩ := fields_of Try.underlying32 h
  rw [cells_Rec] at hl
  match cs, hl with
  | [c0, c1, c2, c3, c4, c5, c6, c7], _ =>
    obtain ⟨y0, h0⟩ := hf 0 _ rfl
    replace h0 : DataW.trod enc Try.prog w base spare held n 9 (List.take (Try.prog.cellsOf 9) (List.drop 0 [c0, c1, c2, c3, c4, c5, c6, c7])) = some y0 := h0
    rw [cells_string] at h0
    replace h0 : DataW.trod enc Try.prog w base spare held n 9 [c0] = some y0 := h0
    obtain ⟨a0, e0, _, w0⟩ := DataW.trod_string Try.underlying9 h0
    obtain ⟨y1, h1⟩ := hf 1 _ rfl
    replace h1 : DataW.trod enc Try.prog w base spare held n 30 (List.take (Try.prog.cellsOf 30) (List.drop 1 [c0, c1, c2, c3, c4, c5, c6, c7])) = some y1 := h1
    rw [cells_Stamp] at h1
    replace h1 : DataW.trod enc Try.prog w base spare held n 30 [c1, c2, c3] = some y1 := h1
    obtain ⟨a1_0, a1_1, a1_2, e1, b1_0, b1_1, b1_2⟩ := Stamp_cells h1
    obtain ⟨y2, h2⟩ := hf 2 _ rfl
    replace h2 : DataW.trod enc Try.prog w base spare held n 5 (List.take (Try.prog.cellsOf 5) (List.drop 4 [c0, c1, c2, c3, c4, c5, c6, c7])) = some y2 := h2
    rw [cells_u8] at h2
    replace h2 : DataW.trod enc Try.prog w base spare held n 5 [c4] = some y2 := h2
    obtain ⟨a2, e2, _, w2⟩ := DataW.trod_int Try.underlying5 h2
    obtain ⟨y3, h3⟩ := hf 3 _ rfl
    replace h3 : DataW.trod enc Try.prog w base spare held n 28 (List.take (Try.prog.cellsOf 28) (List.drop 5 [c0, c1, c2, c3, c4, c5, c6, c7])) = some y3 := h3
    rw [cells_u32] at h3
    replace h3 : DataW.trod enc Try.prog w base spare held n 28 [c5] = some y3 := h3
    obtain ⟨a3, e3, _, w3⟩ := DataW.trod_int Try.underlying28 h3
    obtain ⟨y4, h4⟩ := hf 4 _ rfl
    replace h4 : DataW.trod enc Try.prog w base spare held n 27 (List.take (Try.prog.cellsOf 27) (List.drop 6 [c0, c1, c2, c3, c4, c5, c6, c7])) = some y4 := h4
    rw [cells_u64] at h4
    replace h4 : DataW.trod enc Try.prog w base spare held n 27 [c6] = some y4 := h4
    obtain ⟨a4, e4, _, w4⟩ := DataW.trod_int Try.underlying27 h4
    obtain ⟨y5, h5⟩ := hf 5 _ rfl
    replace h5 : DataW.trod enc Try.prog w base spare held n 9 (List.take (Try.prog.cellsOf 9) (List.drop 7 [c0, c1, c2, c3, c4, c5, c6, c7])) = some y5 := h5
    rw [cells_string] at h5
    replace h5 : DataW.trod enc Try.prog w base spare held n 9 [c7] = some y5 := h5
    obtain ⟨a5, e5, _, w5⟩ := DataW.trod_string Try.underlying9 h5
    cases e0
    cases e1
    cases e2
    cases e3
    cases e4
    cases e5
    exact ⟨a0, a1_0, a1_1, a1_2, a2, a3, a4, a5, rfl, w0, b1_0, b1_1, b1_2, bounds_u8 w2, bounds_u32 w3, bounds_u64 w4, w5⟩
theorem Rec_value {r : Reach} {b0 : Nat} {v : Value} {d : DataW H} {p : List MemPlace} (hv : Value.okWide Try.prog w r b0 32 v) (h : DataW.Trod enc Try.prog w base spare held 32 v d p) :
    ∃ (key : ByteArray) (s_p : Int) (s_l : Int) (s_n : Int) (kind : Int) (flags : Int) (expiry : Int) (body : ByteArray), v = .agg #[.string key, .int .u64 s_p, .int .u32 s_l, .int .u8 s_n, .int .u8 kind, .int .u32 flags, .int .u64 expiry, .string body] ∧ (key.size ≤ maxLen) ∧ (0 ≤ s_p ∧ s_p ≤ 18446744073709551615) ∧ (0 ≤ s_l ∧ s_l ≤ 4294967295) ∧ (0 ≤ s_n ∧ s_n ≤ 255) ∧ (0 ≤ kind ∧ kind ≤ 255) ∧ (0 ≤ flags ∧ flags ≤ 4294967295) ∧ (0 ≤ expiry ∧ expiry ≤ 18446744073709551615) ∧ (body.size ≤ maxLen) := by
  obtain ⟨cs, rfl, hsz⟩ := okWide_struct Try.underlying32 hv
  obtain ⟨fuel, hf⟩ := h
  obtain ⟨z0, z1, z2, z3, z4, z5, z6, z7, e, hb⟩ := Rec_cells hf
  refine ⟨z0, z1, z2, z3, z4, z5, z6, z7, ?_, hb⟩
  obtain ⟨l'⟩ := cs
  rw [show l' = _ from e]
/-- The cells of a Reply. -/
def IsReply (cs : List Value) : Prop := ∃ (has : Bool) (past : Bool) (r_key : ByteArray) (r_s_p : Int) (r_s_l : Int) (r_s_n : Int) (r_kind : Int) (r_flags : Int) (r_expiry : Int) (r_body : ByteArray), cs = [.bool has, .bool past, .string r_key, .int .u64 r_s_p, .int .u32 r_s_l, .int .u8 r_s_n, .int .u8 r_kind, .int .u32 r_flags, .int .u64 r_expiry, .string r_body] ∧ True ∧ True ∧ (r_key.size ≤ maxLen) ∧ (0 ≤ r_s_p ∧ r_s_p ≤ 18446744073709551615) ∧ (0 ≤ r_s_l ∧ r_s_l ≤ 4294967295) ∧ (0 ≤ r_s_n ∧ r_s_n ≤ 255) ∧ (0 ≤ r_kind ∧ r_kind ≤ 255) ∧ (0 ≤ r_flags ∧ r_flags ≤ 4294967295) ∧ (0 ≤ r_expiry ∧ r_expiry ≤ 18446744073709551615) ∧ (r_body.size ≤ maxLen)
theorem Reply_cells {fuel : Nat} {cs : List Value} {x : DataW H × List MemPlace} (h : DataW.trod enc Try.prog w base spare held fuel 34 cs = some x) : IsReply cs := by
  obtain ⟨hl, n, hf⟩ := fields_of Try.underlying34 h
  rw [cells_Reply] at hl
  match cs, hl with
  | [c0, c1, c2, c3, c4, c5, c6, c7, c8, c9], _ =>
    obtain ⟨y0, h0⟩ := hf 0 _ rfl
    replace h0 : DataW.trod enc Try.prog w base spare held n 4 (List.take (Try.prog.cellsOf 4) (List.drop 0 [c0, c1, c2, c3, c4, c5, c6, c7, c8, c9])) = some y0 := h0
    rw [cells_bool] at h0
    replace h0 : DataW.trod enc Try.prog w base spare held n 4 [c0] = some y0 := h0
    obtain ⟨a0, e0, _⟩ := DataW.trod_bool Try.underlying4 h0
    obtain ⟨y1, h1⟩ := hf 1 _ rfl
    replace h1 : DataW.trod enc Try.prog w base spare held n 4 (List.take (Try.prog.cellsOf 4) (List.drop 1 [c0, c1, c2, c3, c4, c5, c6, c7, c8, c9])) = some y1 := h1
    rw [cells_bool] at h1
    replace h1 : DataW.trod enc Try.prog w base spare held n 4 [c1] = some y1 := h1
    obtain ⟨a1, e1, _⟩ := DataW.trod_bool Try.underlying4 h1
    obtain ⟨y2, h2⟩ := hf 2 _ rfl
    replace h2 : DataW.trod enc Try.prog w base spare held n 32 (List.take (Try.prog.cellsOf 32) (List.drop 2 [c0, c1, c2, c3, c4, c5, c6, c7, c8, c9])) = some y2 := h2
    rw [cells_Rec] at h2
    replace h2 : DataW.trod enc Try.prog w base spare held n 32 [c2, c3, c4, c5, c6, c7, c8, c9] = some y2 := h2
    obtain ⟨a2_0, a2_1, a2_2, a2_3, a2_4, a2_5, a2_6, a2_7, e2, b2_0, b2_1, b2_2, b2_3, b2_4, b2_5, b2_6, b2_7⟩ := Rec_cells h2
    cases e0
    cases e1
    cases e2
    exact ⟨a0, a1, a2_0, a2_1, a2_2, a2_3, a2_4, a2_5, a2_6, a2_7, rfl, trivial, trivial, b2_0, b2_1, b2_2, b2_3, b2_4, b2_5, b2_6, b2_7⟩
theorem Reply_value {r : Reach} {b0 : Nat} {v : Value} {d : DataW H} {p : List MemPlace} (hv : Value.okWide Try.prog w r b0 34 v) (h : DataW.Trod enc Try.prog w base spare held 34 v d p) :
    ∃ (has : Bool) (past : Bool) (r_key : ByteArray) (r_s_p : Int) (r_s_l : Int) (r_s_n : Int) (r_kind : Int) (r_flags : Int) (r_expiry : Int) (r_body : ByteArray), v = .agg #[.bool has, .bool past, .string r_key, .int .u64 r_s_p, .int .u32 r_s_l, .int .u8 r_s_n, .int .u8 r_kind, .int .u32 r_flags, .int .u64 r_expiry, .string r_body] ∧ True ∧ True ∧ (r_key.size ≤ maxLen) ∧ (0 ≤ r_s_p ∧ r_s_p ≤ 18446744073709551615) ∧ (0 ≤ r_s_l ∧ r_s_l ≤ 4294967295) ∧ (0 ≤ r_s_n ∧ r_s_n ≤ 255) ∧ (0 ≤ r_kind ∧ r_kind ≤ 255) ∧ (0 ≤ r_flags ∧ r_flags ≤ 4294967295) ∧ (0 ≤ r_expiry ∧ r_expiry ≤ 18446744073709551615) ∧ (r_body.size ≤ maxLen) := by
  obtain ⟨cs, rfl, hsz⟩ := okWide_struct Try.underlying34 hv
  obtain ⟨fuel, hf⟩ := h
  obtain ⟨z0, z1, z2, z3, z4, z5, z6, z7, z8, z9, e, hb⟩ := Reply_cells hf
  refine ⟨z0, z1, z2, z3, z4, z5, z6, z7, z8, z9, ?_, hb⟩
  obtain ⟨l'⟩ := cs
  rw [show l' = _ from e]
/-- The cells of a AOp. -/
def IsAOp (cs : List Value) : Prop := ∃ (node : Int) (y_has : Bool) (y_past : Bool) (y_r_key : ByteArray) (y_r_s_p : Int) (y_r_s_l : Int) (y_r_s_n : Int) (y_r_kind : Int) (y_r_flags : Int) (y_r_expiry : Int) (y_r_body : ByteArray), cs = [.int .u8 node, .bool y_has, .bool y_past, .string y_r_key, .int .u64 y_r_s_p, .int .u32 y_r_s_l, .int .u8 y_r_s_n, .int .u8 y_r_kind, .int .u32 y_r_flags, .int .u64 y_r_expiry, .string y_r_body] ∧ (0 ≤ node ∧ node ≤ 255) ∧ True ∧ True ∧ (y_r_key.size ≤ maxLen) ∧ (0 ≤ y_r_s_p ∧ y_r_s_p ≤ 18446744073709551615) ∧ (0 ≤ y_r_s_l ∧ y_r_s_l ≤ 4294967295) ∧ (0 ≤ y_r_s_n ∧ y_r_s_n ≤ 255) ∧ (0 ≤ y_r_kind ∧ y_r_kind ≤ 255) ∧ (0 ≤ y_r_flags ∧ y_r_flags ≤ 4294967295) ∧ (0 ≤ y_r_expiry ∧ y_r_expiry ≤ 18446744073709551615) ∧ (y_r_body.size ≤ maxLen)
theorem AOp_cells {fuel : Nat} {cs : List Value} {x : DataW H × List MemPlace} (h : DataW.trod enc Try.prog w base spare held fuel 36 cs = some x) : IsAOp cs := by
  obtain ⟨hl, n, hf⟩ := fields_of Try.underlying36 h
  rw [cells_AOp] at hl
  match cs, hl with
  | [c0, c1, c2, c3, c4, c5, c6, c7, c8, c9, c10], _ =>
    obtain ⟨y0, h0⟩ := hf 0 _ rfl
    replace h0 : DataW.trod enc Try.prog w base spare held n 5 (List.take (Try.prog.cellsOf 5) (List.drop 0 [c0, c1, c2, c3, c4, c5, c6, c7, c8, c9, c10])) = some y0 := h0
    rw [cells_u8] at h0
    replace h0 : DataW.trod enc Try.prog w base spare held n 5 [c0] = some y0 := h0
    obtain ⟨a0, e0, _, w0⟩ := DataW.trod_int Try.underlying5 h0
    obtain ⟨y1, h1⟩ := hf 1 _ rfl
    replace h1 : DataW.trod enc Try.prog w base spare held n 34 (List.take (Try.prog.cellsOf 34) (List.drop 1 [c0, c1, c2, c3, c4, c5, c6, c7, c8, c9, c10])) = some y1 := h1
    rw [cells_Reply] at h1
    replace h1 : DataW.trod enc Try.prog w base spare held n 34 [c1, c2, c3, c4, c5, c6, c7, c8, c9, c10] = some y1 := h1
    obtain ⟨a1_0, a1_1, a1_2, a1_3, a1_4, a1_5, a1_6, a1_7, a1_8, a1_9, e1, b1_0, b1_1, b1_2, b1_3, b1_4, b1_5, b1_6, b1_7, b1_8, b1_9⟩ := Reply_cells h1
    cases e0
    cases e1
    exact ⟨a0, a1_0, a1_1, a1_2, a1_3, a1_4, a1_5, a1_6, a1_7, a1_8, a1_9, rfl, bounds_u8 w0, b1_0, b1_1, b1_2, b1_3, b1_4, b1_5, b1_6, b1_7, b1_8, b1_9⟩
theorem AOp_value {r : Reach} {b0 : Nat} {v : Value} {d : DataW H} {p : List MemPlace} (hv : Value.okWide Try.prog w r b0 36 v) (h : DataW.Trod enc Try.prog w base spare held 36 v d p) :
    ∃ (node : Int) (y_has : Bool) (y_past : Bool) (y_r_key : ByteArray) (y_r_s_p : Int) (y_r_s_l : Int) (y_r_s_n : Int) (y_r_kind : Int) (y_r_flags : Int) (y_r_expiry : Int) (y_r_body : ByteArray), v = .agg #[.int .u8 node, .bool y_has, .bool y_past, .string y_r_key, .int .u64 y_r_s_p, .int .u32 y_r_s_l, .int .u8 y_r_s_n, .int .u8 y_r_kind, .int .u32 y_r_flags, .int .u64 y_r_expiry, .string y_r_body] ∧ (0 ≤ node ∧ node ≤ 255) ∧ True ∧ True ∧ (y_r_key.size ≤ maxLen) ∧ (0 ≤ y_r_s_p ∧ y_r_s_p ≤ 18446744073709551615) ∧ (0 ≤ y_r_s_l ∧ y_r_s_l ≤ 4294967295) ∧ (0 ≤ y_r_s_n ∧ y_r_s_n ≤ 255) ∧ (0 ≤ y_r_kind ∧ y_r_kind ≤ 255) ∧ (0 ≤ y_r_flags ∧ y_r_flags ≤ 4294967295) ∧ (0 ≤ y_r_expiry ∧ y_r_expiry ≤ 18446744073709551615) ∧ (y_r_body.size ≤ maxLen) := by
  obtain ⟨cs, rfl, hsz⟩ := okWide_struct Try.underlying36 hv
  obtain ⟨fuel, hf⟩ := h
  obtain ⟨z0, z1, z2, z3, z4, z5, z6, z7, z8, z9, z10, e, hb⟩ := AOp_cells hf
  refine ⟨z0, z1, z2, z3, z4, z5, z6, z7, z8, z9, z10, ?_, hb⟩
  obtain ⟨l'⟩ := cs
  rw [show l' = _ from e]
end
end Go.Proofs.Ytnbcbokdbenbiaa.Opener

/- The chapter's examples of package cmd: the walk (own text). -/
import Derived.Test.YtpfggidfcbgaiaaDoorCmdParA
namespace Go.Proofs.YtpfggidfcbgaiaaDoor.Cmd
open Go.RowKit Go.Proofs.YtpfggidfcbgaiaaDoorW.PrintWords Go.Proofs.YtpfggidfcbgaiaaDoorW.PrintLast Go.Proofs.YtpfggidfcbgaiaaDoorW.PrintMore Go.Proofs.YtpfggidfcbgaiaaDoor.PCmd Go.Proofs.YtpfggidfcbgaiaaDoor.Split
set_option linter.unusedVariables false
set_option linter.unusedSimpArgs false
theorem ex1 (w : World) : Calls Tryd.prog 9 #[.string ⟨#[103, 101, 116, 32, 97, 32, 98]⟩] w fun e w' => ∃ g o c, e = .returned (.tuple #[.agg #[.int .i64 1, .slice (some ⟨g, o, none⟩) 2 c, .int .u32 0, .int .i64 0, .string ⟨#[]⟩, .bool false, .string ⟨#[]⟩], .int .i64 (-1)]) ∧ w'.cell? ⟨g, o + 1, none⟩ = some (.string ⟨#[98]⟩) ∧ g < w'.heap.size ∧ Below w.heap.size w w' := by
  refine (parse_any ⟨#[103, 101, 116, 32, 97, 32, 98]⟩ (by decide) w).mono ?_
  have e : parseP (wordsB ⟨#[103, 101, 116, 32, 97, 32, 98]⟩) = (1, [⟨#[97]⟩, ⟨#[98]⟩], 0, 0, ⟨#[]⟩, false, ⟨#[]⟩, -1) := by kernel_rfl
  rw [e]
  rintro e w' ⟨v, rfl, hQ, hb⟩
  obtain ⟨g, o, c, rfl, _, hlt, _⟩ := Kd.Q_form hQ (by decide)
  obtain ⟨hc, _⟩ := Kd.Q_cell (⟨#[]⟩ : ByteArray) hQ 1 (by decide) (by decide)
  exact ⟨g, o, c, rfl, hc, hlt, hb⟩
theorem ex2 (w : World) : Calls Tryd.prog 9 #[.string ⟨#[115, 101, 116, 32, 97, 32, 49, 32, 45, 53, 32, 51, 32, 110, 111, 114, 101, 112, 108, 121]⟩] w fun e w' => ∃ A c, e = .returned (.tuple #[.agg #[.int .i64 2, .slice A 1 c, .int .u32 1, .int .i64 (-5), .string ⟨#[]⟩, .bool true, .string ⟨#[]⟩], .int .i64 3]) ∧ Below w.heap.size w w' := by
  refine (parse_any ⟨#[115, 101, 116, 32, 97, 32, 49, 32, 45, 53, 32, 51, 32, 110, 111, 114, 101, 112, 108, 121]⟩ (by decide) w).mono ?_
  have e : parseP (wordsB ⟨#[115, 101, 116, 32, 97, 32, 49, 32, 45, 53, 32, 51, 32, 110, 111, 114, 101, 112, 108, 121]⟩) = (2, [⟨#[97]⟩], 1, -5, ⟨#[]⟩, true, ⟨#[]⟩, 3) := by kernel_rfl
  rw [e]
  rintro e w' ⟨v, rfl, hQ, hb⟩
  obtain ⟨A, c, rfl, _⟩ := Kd.Q_slice hQ
  exact ⟨A, c, rfl, hb⟩
theorem ex3 (w : World) : Calls Tryd.prog 9 #[.string ⟨#[103, 101, 116, 115, 32, 97]⟩] w fun e w' => ∃ A c, e = .returned (.tuple #[.agg #[.int .i64 8, .slice A 0 c, .int .u32 0, .int .i64 0, .string ⟨#[]⟩, .bool false, .string errB], .int .i64 (-1)]) ∧ Below w.heap.size w w' := by
  refine (parse_any ⟨#[103, 101, 116, 115, 32, 97]⟩ (by decide) w).mono ?_
  have e : parseP (wordsB ⟨#[103, 101, 116, 115, 32, 97]⟩) = badA errB (-1) := by kernel_rfl
  rw [e]
  rintro e w' ⟨v, rfl, hQ, hb⟩
  obtain ⟨A, c, rfl, _⟩ := Kd.Q_slice hQ
  exact ⟨A, c, rfl, hb⟩
theorem ex4 (w : World) : Calls Tryd.prog 9 #[.string ⟨#[115, 101, 116, 32, 97, 32, 120, 32, 48, 32, 51]⟩] w fun e w' => ∃ A c, e = .returned (.tuple #[.agg #[.int .i64 8, .slice A 0 c, .int .u32 0, .int .i64 0, .string ⟨#[]⟩, .bool false, .string fmtB], .int .i64 3]) ∧ Below w.heap.size w w' := by
  refine (parse_any ⟨#[115, 101, 116, 32, 97, 32, 120, 32, 48, 32, 51]⟩ (by decide) w).mono ?_
  have e : parseP (wordsB ⟨#[115, 101, 116, 32, 97, 32, 120, 32, 48, 32, 51]⟩) = badA fmtB 3 := by kernel_rfl
  rw [e]
  rintro e w' ⟨v, rfl, hQ, hb⟩
  obtain ⟨A, c, rfl, _⟩ := Kd.Q_slice hQ
  exact ⟨A, c, rfl, hb⟩
theorem bcell2 {W w1 : World} (hb : Below W.heap.size W w1) : (∀ b o, b < W.heap.size → w1.cell? ⟨b, o, none⟩ = W.cell? ⟨b, o, none⟩) := fun b o h => hb.cell (p := ⟨b, o, none⟩) h
set_option maxRecDepth 100000 in
set_option maxHeartbeats 1600000 in
theorem fixed_any (w : World) : Calls Tryd.prog 8 #[] w fun e w' => e = .returned (.bool true) ∧ Below w.heap.size w w' := by
  have H1 := Lib.hid ex1
  have H2 := Lib.hid ex2
  have H3 := Lib.hid ex3
  have H4 := Lib.hid ex4
  have herr : (errB.toList == [69, 82, 82, 79, 82, 13, 10]) = true := by decide +kernel
  go_enter Tryd.func8, Tryd.ntmps8
  go_wp2_with (first
    | (go_at_call 9; (with_reducible refine (H1.out _).mono ?_); rintro e w1 ⟨g, o, c, rfl, hg1, hg2, hb1⟩)
    | (go_at_call 9; (with_reducible refine (H2.out _).mono ?_); rintro e w2 ⟨A2, c2, rfl, hb2⟩; have z2 := hb2.size; (simp at z2); have k2 := bcell2 hb2)
    | (go_at_call 9; (with_reducible refine (H3.out _).mono ?_); rintro e w3 ⟨A3, c3, rfl, hb3⟩; have z3 := hb3.size; (simp at z3); have k3 := bcell2 hb3)
    | (go_at_call 9; (with_reducible refine (H4.out _).mono ?_); rintro e w4 ⟨A4, c4, rfl, hb4⟩; have z4 := hb4.size; (simp at z4); have k4 := bcell2 hb4; have y1 : w1.heap.size < w4.heap.size := (by omega); have y2 : w2.heap.size < w4.heap.size := (by omega); have y3 : w3.heap.size < w4.heap.size := (by omega); have y4 : w1.heap.size < w3.heap.size := (by omega); have y5 : w1.heap.size < w2.heap.size := (by omega); have y6 : w2.heap.size < w3.heap.size := (by omega); have y7 : g < w2.heap.size := (by omega); have y8 : g < w3.heap.size := (by omega); have y9 : g < w4.heap.size := (by omega)))
  go_ret
  exact ⟨rfl, below_alloc (below_step (below_alloc (below_step (below_alloc (below_step (below_alloc hb1 _) hb2) _) hb3) _) hb4) _⟩
end Go.Proofs.YtpfggidfcbgaiaaDoor.Cmd

/- HlcPlays: for every input the law answers true, and its arguments read as before. Condition: none. The row over the walk (own text, after the guide's template for a law). -/
import Derived.Test.YtcidckcdfacplaaRows
import Derived.Test.YtcidckcdfacplaaHlcPlaysB
import Derived.Test.YtcidckcdfacplaaHlcOpen
import Derived.WalkKit
import Derived.ProofKit
import Derived.OpenShut
import Derived.ShutString
import Derived.ChangeOld
import Derived.Below
import Derived.SizedLaws
import Derived.Carry
namespace Go.Proofs.Ytcidckcdfacplaa.hlcPlays
open Go.ChangeShapes Go.WideShapes Go.ChangeAt Go.RowKit
open Go.ChangeMaps (open_string shut_string)
set_option linter.unusedVariables false
theorem own : ownKnob Try.prog.godebug = none := by kernel_rfl
theorem laidOut : laidOutB Try.prog = true := by kernel_rfl
set_option maxRecDepth 100000 in
theorem lifted (os : Os) (started : os.Started) (H : Type) (enc : TypeId × Value → H) :
    ReturnsInHanded {} Try.checked os 5 .any (Rows.hlcPlaysSpec.pre6 enc Try.prog Try.f5 Rows.hlcPlaysRow.domain false) (Rows.hlcPlaysSpec.post enc Try.prog Try.f5 false true false false) := by
  refine returnsInHanded_of_change_sized (C := Try.checked) own started (by kernel_rfl) Try.func5
    (ChangeSpec.witness6 (enc := enc) (C := Try.checked) false ⟨#[], #[.int .u8 0, .int .u64 0, .int .i64 0, .bool false, .slice none 0 0], []⟩ 8 (by kernel_rfl) (by kernel_rfl) (by kernel_rfl) (by kernel_rfl)) ?_
  intro W base args ds gs before hval0 hW hcnd hsz0 _
  have hsz : (DataW.weightsEach Try.prog (Try.f5.params.toList ++ Rows.hlcPlaysSpec.plain.varTypes Try.prog) (ds ++ gs)).all (· ≤ reachBytes) = true := hsz0
  have hval : ∀ (j : Nat) t v, Try.f5.params[j]? = some t → args[j]? = some v → Value.okWide Try.prog W .any base t v := hval0
  have hW' := hW
  obtain ⟨p, q, hA0, hV, rfl, hfz, hnd⟩ := hW
  have hA : DataW.TrodAll enc Try.prog W 0 (fun _ => true) true Try.f5.params.toList args.toList ds p := hA0
  rw [Try.params5] at hA hval hsz
  obtain ⟨v0, vs0, d0, ds0, p0, q0, hargs, rfl, rfl, h0, u0⟩ := trodAll_cons hA
  obtain ⟨v1, vs1, d1, ds1, p1, q1, rfl, rfl, rfl, h1, u1⟩ := trodAll_cons u0
  obtain ⟨v2, vs2, d2, ds2, p2, q2, rfl, rfl, rfl, h2, u2⟩ := trodAll_cons u1
  obtain ⟨v3, vs3, d3, ds3, p3, q3, rfl, rfl, rfl, h3, u3⟩ := trodAll_cons u2
  obtain ⟨v4, vs4, d4, ds4, p4, q4, rfl, rfl, rfl, h4, u4⟩ := trodAll_cons u3
  obtain ⟨rfl, rfl, rfl⟩ := trodAll_nil u4
  obtain rfl : args = #[v0, v1, v2, v3, v4] := by cases args; simp_all
  obtain ⟨rfl, rfl⟩ := trodVars_none hV
  obtain ⟨a0, rfl, rfl, rfl, y0⟩ := open_int Try.underlying5 (hval 0 5 v0 rfl rfl) h0
  have b0 := bounds_u8 y0
  obtain ⟨a1, rfl, rfl, rfl, y1⟩ := open_int Try.underlying22 (hval 1 22 v1 rfl rfl) h1
  have b1 := bounds_u64 y1
  obtain ⟨a2, rfl, rfl, rfl, y2⟩ := open_int Try.underlying3 (hval 2 3 v2 rfl rfl) h2
  have b2 := bounds_i64 y2
  obtain ⟨a3, rfl, rfl, rfl⟩ := open_bool Try.underlying4 (hval 3 4 v3 rfl rfl) h3
  have k4 := h4
  have lt4 : ∀ x ∈ p4, x.block < W.heap.size := by obtain ⟨m, hm⟩ := k4; exact DataW.trod_lt m _ _ _ hm
  obtain ⟨a4, len4, cap4, rfl⟩ := okWide_slice Try.underlying29 (hval 4 29 v4 rfl rfl)
  have r4 : len4 ≤ cap4 ∧ cap4 ≤ maxLen ∧ (0 < len4 → ∃ b off, a4 = some ⟨b, off, none⟩ ∧ b < W.heap.size ∧ ∀ i, i < len4 → ∃ cs, Opener.IsHOp cs ∧ cs.length = 5 ∧ ∀ j, j < 5 → W.cell? ⟨b, off + (i * 5 + j), none⟩ = cs[j]?) := by
    obtain ⟨fuel, hf⟩ := h4
    obtain ⟨a, len, cap, e, r⟩ := Opener.slice_rows (R := Opener.IsHOp) Try.underlying29 Opener.cells_HOp (by decide) (fun _ _ _ h => Opener.HOp_cells h) hf
    simp only [Value.cells, List.cons.injEq, Value.slice.injEq, and_true] at e
    obtain ⟨rfl, rfl, rfl⟩ := e
    exact r
  clear hA0 hval0 hsz0 hsz
  refine (Hlc.HlcPlays_walk a0 a1 a2 a3 a4 len4 cap4 W b0 b1 r4).mono fun e W' ⟨he, bel⟩ => ?_
  subst he
  exact ⟨_, rfl, _, _, _, [], _, [], hW', trodAll_mk1 (shut_bool Try.underlying4 _), (trodAll_cons_mk (shut_int Try.underlying5 y0) (trodAll_cons_mk (shut_int Try.underlying22 y1) (trodAll_cons_mk (shut_int Try.underlying3 y2) (trodAll_cons_mk (shut_bool Try.underlying4 a3) (trodAll_cons_mk (Below.trod laidOut (by kernel_rfl) (of_decide_eq_true (by kernel_rfl)) k4 bel lt4) trodAll_mk0))))), rfl, bel.frame _, fun h => by cases h⟩
theorem over : Rows.hlcPlaysRow.holds Try.pinned (OpenSpec.ofChange Rows.hlcPlaysSpec) :=
  OpenClaim.holds_of_wide 5 Try.f5 rfl rfl rfl rfl rfl rfl rfl ⟨rfl, rfl, rfl, rfl, rfl⟩ rfl rfl rfl rfl rfl (by kernel_rfl) Try.func5 (by kernel_rfl)
    (of_decide_eq_true (by kernel_rfl)) (by unfold Func.isWrapper; first | (rw [if_pos (by decide +kernel)]; kernel_rfl) | (rw [if_neg (by decide +kernel)]; exact ⟨rfl, rfl⟩))
    (fun os started H enc _ => lifted os started H enc)
/-- The statement. -/
theorem proved : Rows.HlcPlaysSaid := over
#print axioms proved
end Go.Proofs.Ytcidckcdfacplaa.hlcPlays

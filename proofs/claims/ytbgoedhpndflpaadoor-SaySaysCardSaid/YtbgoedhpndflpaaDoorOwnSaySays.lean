/- SaySays: for every input the law answers true, and its arguments read as before. Condition: none. The row over the walk (own text, after the guide's template for a law). -/
import Derived.Test.YtbgoedhpndflpaaDoorRows
import Derived.Test.YtbgoedhpndflpaaDoorSayWalk
import Derived.Test.YtbgoedhpndflpaaDoorCards
import Derived.Test.YtbgoedhpndflpaaDoorTie
import Derived.Lay
import Derived.LaidLaws
import Derived.SevenTiedAt
import Derived.WalkKit
import Derived.ProofKit
import Derived.OpenShut
import Derived.ShutString
import Derived.ChangeOld
import Derived.Below
import Derived.SizedLaws
import Derived.Carry
namespace Go.Proofs.YtbgoedhpndflpaaDoor.saySays
open Go.ChangeShapes Go.WideShapes Go.ChangeAt Go.RowKit
open Go.ChangeMaps (open_string shut_string)
set_option linter.unusedVariables false
theorem own : ownKnob Tryd.prog.godebug = none := by kernel_rfl
theorem laidOut : laidOutB Tryd.prog = true := by kernel_rfl
set_option maxRecDepth 100000 in
theorem lifted (os : Os) (started : os.Started) (H : Type) (enc : TypeId × Value → H) :
    ReturnsInHanded {} Tryd.checked os 5 .any (fun w args => (Rows.saySaysSpec.pre enc Tryd.prog Tryd.f5 [] false w args ∧ laidMetH Tryd.prog Rows.saySaysRow.laid w) ∧ sizedMet enc Tryd.prog Tryd.f5 (OpenSpec.ofChange Rows.saySaysSpec) false w args) (Rows.saySaysSpec.post enc Tryd.prog Tryd.f5 false true false false) := by
  refine returnsInHanded_of_change_and (C := Tryd.checked) (X := fun w _ => laidMetH Tryd.prog Rows.saySaysRow.laid w) (fun _ _ _ hh h => h.of_heap hh) own started (by kernel_rfl) Tryd.func5
    (ChangeSpec.witness_shaped (enc := enc) (C := Tryd.checked) (os := os) (X := fun w _ => laidMetH Tryd.prog Rows.saySaysRow.laid w) false (World.laidAll Tryd.prog os Rows.saySaysRow.laid) #[.slice none 0 0, .slice none 0 0, .slice none 0 0] 8 (World.laidAll_os _ _ _)
      (World.shaped_of_ZipB (by kernel_rfl) (by kernel_rfl)) (by kernel_rfl) (by kernel_rfl) (by kernel_rfl)
      (by rw [MakeChecks.laidMetH_plain _ _ _ (by kernel_rfl)]; exact laidMet_laidAll _ (by kernel_rfl) (by kernel_rfl))) ?_
  intro W base args ds gs before hval0 hW hcnd hsz0 hL _
  have hsz : (DataW.weightsEach Tryd.prog (Tryd.f5.params.toList ++ Rows.saySaysSpec.plain.varTypes Tryd.prog) (ds ++ gs)).all (· ≤ reachBytes) = true := hsz0
  have hval : ∀ (j : Nat) t v, Tryd.f5.params[j]? = some t → args[j]? = some v → Value.okWide Tryd.prog W .any base t v := hval0
  have hW' := hW
  obtain ⟨p, q, hA0, hV, rfl, hfz, hnd⟩ := hW
  have hA : DataW.TrodAll enc Tryd.prog W 0 (fun _ => true) true Tryd.f5.params.toList args.toList ds p := hA0
  rw [Tryd.params5] at hA hval hsz
  obtain ⟨v0, vs0, d0, ds0, p0, q0, hargs, rfl, rfl, h0, u0⟩ := trodAll_cons hA
  obtain ⟨v1, vs1, d1, ds1, p1, q1, rfl, rfl, rfl, h1, u1⟩ := trodAll_cons u0
  obtain ⟨v2, vs2, d2, ds2, p2, q2, rfl, rfl, rfl, h2, u2⟩ := trodAll_cons u1
  obtain ⟨rfl, rfl, rfl⟩ := trodAll_nil u2
  obtain rfl : args = #[v0, v1, v2] := by cases args; simp_all
  obtain ⟨rfl, rfl⟩ := trodVars_none hV
  have k0 := h0
  have lt0 : ∀ x ∈ p0, x.block < W.heap.size := by obtain ⟨m, hm⟩ := k0; exact DataW.trod_lt m _ _ _ hm
  obtain ⟨a0, len0, cap0, rfl⟩ := okWide_slice Tryd.underlying22 (hval 0 22 v0 rfl rfl)
  have r0 : len0 ≤ cap0 ∧ cap0 ≤ maxLen ∧ (0 < len0 → ∃ b off, a0 = some ⟨b, off, none⟩ ∧ b < W.heap.size ∧ ∀ i, i < len0 → ∃ cs, Opener.IsRec cs ∧ cs.length = 8 ∧ ∀ j, j < 8 → W.cell? ⟨b, off + (i * 8 + j), none⟩ = cs[j]?) := by
    obtain ⟨fuel, hf⟩ := h0
    obtain ⟨a, len, cap, e, r⟩ := Opener.slice_rows (R := Opener.IsRec) Tryd.underlying22 Opener.cells_Rec (by decide) (fun _ _ _ h => Opener.Rec_cells h) hf
    simp only [Value.cells, List.cons.injEq, Value.slice.injEq, and_true] at e
    obtain ⟨rfl, rfl, rfl⟩ := e
    exact r
  have k1 := h1
  have lt1 : ∀ x ∈ p1, x.block < W.heap.size := by obtain ⟨m, hm⟩ := k1; exact DataW.trod_lt m _ _ _ hm
  obtain ⟨a1, len1, cap1, rfl⟩ := okWide_slice Tryd.underlying38 (hval 1 38 v1 rfl rfl)
  have r1 : len1 ≤ cap1 ∧ cap1 ≤ maxLen ∧ (0 < len1 → ∃ b off, a1 = some ⟨b, off, none⟩ ∧ b < W.heap.size ∧ ∀ i, i < len1 → ∃ cs, Opener.IsString cs ∧ cs.length = 1 ∧ ∀ j, j < 1 → W.cell? ⟨b, off + (i * 1 + j), none⟩ = cs[j]?) := by
    obtain ⟨fuel, hf⟩ := h1
    obtain ⟨a, len, cap, e, r⟩ := Opener.slice_rows (R := Opener.IsString) Tryd.underlying38 Opener.cells_String (by decide) (fun _ _ _ h => Opener.String_cells h) hf
    simp only [Value.cells, List.cons.injEq, Value.slice.injEq, and_true] at e
    obtain ⟨rfl, rfl, rfl⟩ := e
    exact r
  have k2 := h2
  have lt2 : ∀ x ∈ p2, x.block < W.heap.size := by obtain ⟨m, hm⟩ := k2; exact DataW.trod_lt m _ _ _ hm
  obtain ⟨a2, len2, cap2, rfl⟩ := okWide_slice Tryd.underlying39 (hval 2 39 v2 rfl rfl)
  have r2 : len2 ≤ cap2 ∧ cap2 ≤ maxLen ∧ (0 < len2 → ∃ b off, a2 = some ⟨b, off, none⟩ ∧ b < W.heap.size ∧ ∀ i, i < len2 → ∃ cs, Opener.IsU64 cs ∧ cs.length = 1 ∧ ∀ j, j < 1 → W.cell? ⟨b, off + (i * 1 + j), none⟩ = cs[j]?) := by
    obtain ⟨fuel, hf⟩ := h2
    obtain ⟨a, len, cap, e, r⟩ := Opener.slice_rows (R := Opener.IsU64) Tryd.underlying39 Opener.cells_U64 (by decide) (fun _ _ _ h => Opener.U64_cells h) hf
    simp only [Value.cells, List.cons.injEq, Value.slice.injEq, and_true] at e
    obtain ⟨rfl, rfl, rfl⟩ := e
    exact r
  clear hA0 hval0 hsz0 hsz
  refine (Say.says_walk a0 len0 cap0 a1 len1 cap1 a2 len2 cap2 W r0 r1 r2 (Say.tab_laid (by rw [MakeChecks.laidMetH_plain _ _ _ (by kernel_rfl)] at hL; exact hL))).mono fun e W' ⟨he, bel⟩ => ?_
  subst he
  exact ⟨_, rfl, _, _, _, [], _, [], hW', trodAll_mk1 (shut_bool Tryd.underlying4 _), (trodAll_cons_mk (Below.trod laidOut (by kernel_rfl) (of_decide_eq_true (by kernel_rfl)) k0 bel lt0) (trodAll_cons_mk (Below.trod laidOut (by kernel_rfl) (of_decide_eq_true (by kernel_rfl)) k1 bel lt1) (trodAll_cons_mk (Below.trod laidOut (by kernel_rfl) (of_decide_eq_true (by kernel_rfl)) k2 bel lt2) trodAll_mk0))), rfl, bel.frame _, fun h => by cases h⟩
theorem over : Rows.saySaysRow.holds Tryd.pinned (OpenSpec.ofChange Rows.saySaysSpec) :=
  OpenClaim.holds_of_wide 5 Tryd.f5 rfl rfl rfl rfl rfl rfl rfl ⟨rfl, rfl, rfl, rfl, rfl⟩ rfl rfl rfl rfl rfl (by kernel_rfl) Tryd.func5 (by kernel_rfl)
    (of_decide_eq_true (by kernel_rfl)) (by unfold Func.isWrapper; first | (rw [if_pos (by decide +kernel)]; kernel_rfl) | (rw [if_neg (by decide +kernel)]; exact ⟨rfl, rfl⟩))
    (fun os started H enc _ => lifted os started H enc)
/-- The statement: the tied card. -/
theorem proved : Rows.SaySaysCardSaid :=
  Claim7.holds_tied_plain_at .later [] [.data, .data, .data, .data, .pinned] true (true, "505b43bb523a65f10b93f2a0f40307ad1a700379e396802d4d2daf1a9c615b18") false over (fun _ h => by cases h) (by kernel_rfl) (fun _ h => by cases h) saySays_row_tie rfl ⟨rfl, rfl⟩ (by kernel_rfl) rfl
    (fun f fn hf hfn => by
      obtain rfl : f = 5 := Option.some.inj ((show Tryd.prog.funcNamed "tattler/tattlerlaw09.SaySays" = some 5 by kernel_rfl).symm.trans hf) |>.symm
      obtain rfl : fn = Tryd.f5 := (Option.some.inj (Tryd.func5.symm.trans hfn)).symm
      exact ⟨by kernel_rfl, fun j t ht => by
        rw [Tryd.params5] at ht
        have hm : t ∈ [22, 38, 39] := by simpa using Array.mem_of_getElem? ht
        have hall : ([22, 38, 39].all fun u => !Tryd.prog.wantsStandIn u) = true := by kernel_rfl
        exact (show Tryd.prog.wantsStandIn t = false by simpa using List.all_eq_true.1 hall t hm)⟩)
    (by kernel_rfl)
#print axioms proved
end Go.Proofs.YtbgoedhpndflpaaDoor.saySays

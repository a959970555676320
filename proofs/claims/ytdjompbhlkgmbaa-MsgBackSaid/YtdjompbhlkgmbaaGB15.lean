/- What the row needs, laid together out of MsgRRec, MsgRList (own texts and texts printed for this seat; wip/tools/group.py). -/
import Derived.Test.YtdjompbhlkgmbaaGB8
import Derived.Test.YtdjompbhlkgmbaaGB14
section
/- The reader's record where all is right (own text; written by wip/tools/gen_msgrec.py). -/
namespace Go.Proofs.Ytdjompbhlkgmbaa.Msg
open Go.RowKit Go.Proofs.Ytdjompbhlkgmbaa.Mem Go.Proofs.YtdjompbhlkgmbaaW.PrintWords Go.Proofs.YtdjompbhlkgmbaaW.PrintLast Go.Proofs.YtdjompbhlkgmbaaW.PrintMore
set_option linter.unusedVariables false
set_option linter.unusedSimpArgs false
theorem res35 (t : Array Value) (z : Nat) (w : World) (u0 u1 u2 u3 u4 u5 u6 u7 : Value) (h2 : t.getD 2 undef = .pointer (some ⟨z, 0, none⟩)) (hz : At w z #[u0, u1, u2, u3, u4, u5, u6, u7] 54) : (results Try.f35 t).run Try.prog w = .ok (.agg #[u0, u1, u2, u3, u4, u5, u6, u7]) w := by
  have e0 : w.cell? ⟨z, 0, none⟩ = some u0 := hz.cell 0
  have e1 : w.cell? ⟨z, 1, none⟩ = some u1 := hz.cell 1
  have e2 : w.cell? ⟨z, 2, none⟩ = some u2 := hz.cell 2
  have e3 : w.cell? ⟨z, 3, none⟩ = some u3 := hz.cell 3
  have e4 : w.cell? ⟨z, 4, none⟩ = some u4 := hz.cell 4
  have e5 : w.cell? ⟨z, 5, none⟩ = some u5 := hz.cell 5
  have e6 : w.cell? ⟨z, 6, none⟩ = some u6 := hz.cell 6
  have e7 : w.cell? ⟨z, 7, none⟩ = some u7 := hz.cell 7
  unfold results
  rw [show Try.f35.results = #[ResultVar.cell 2 54] from by kernel_rfl]
  rw [Array.getD_eq_getD_getElem?] at h2
  simp [List.mapM_toArray, h2, go_sem, *]
set_option maxRecDepth 100000 in
set_option maxHeartbeats 4000000 in
theorem rrec_is (zr : Nat) (s : ByteArray) (a nx : Int) (k : ByteArray) (p l n d f x : Int) (b : ByteArray) (hg : ∀ W : World, Calls Try.prog 75 #[.string s, .int .i64 a] W fun e w' => e = .returned (.tuple #[.agg #[.string k, .int .u64 p, .int .u32 l, .int .u8 n, .int .u8 d, .int .u32 f, .int .u64 x, .string b], .int .i64 nx, .int .i64 0]) ∧ Below W.heap.size W w') (w : World) (hA : At w zr #[.string s, .int .i64 a] 89) :
    Calls Try.prog 35 #[.pointer (some ⟨zr, 0, none⟩)] w fun e w' => e = .returned (.agg #[.string k, .int .u64 p, .int .u32 l, .int .u8 n, .int .u8 d, .int .u32 f, .int .u64 x, .string b]) ∧ At w' zr #[.string s, .int .i64 nx] 89 ∧ Chg (fun x => x = zr) w w' := by
  have GT := Lib.hid hg
  have hlt := hA.lt
  have HA := Lib.hid hA
  clear hg hA
  go_enter Try.func35, Try.ntmps35
  go_upto_region 1 with (fail)
  have AQ := Lib.hid (at_new w #[.string ⟨#[]⟩, .int .u64 0, .int .u32 0, .int .u8 0, .int .u8 0, .int .u32 0, .int .u64 0, .string ⟨#[]⟩] 54)
  have AR := Lib.hid (at_alloc (o := .cells #[.string ⟨#[]⟩, .int .u64 0, .int .u32 0, .int .u8 0, .int .u8 0, .int .u32 0, .int .u64 0, .string ⟨#[]⟩] 54) HA.out)
  have HK := Lib.hid (chg_alloc (o := .cells #[.string ⟨#[]⟩, .int .u64 0, .int .u32 0, .int .u8 0, .int .u8 0, .int .u32 0, .int .u64 0, .string ⟨#[]⟩] 54) (chg_refl (fun x => x = zr) w))
  have HN := Lib.hid (show w.heap.size ≠ zr from by omega)
  clear HA hlt
  generalize w.alloc (.cells #[.string ⟨#[]⟩, .int .u64 0, .int .u32 0, .int .u8 0, .int .u8 0, .int .u32 0, .int .u64 0, .string ⟨#[]⟩] 54) = w1 at *
  refine start_ (n := 17) (S := fun w' => w'.cell? ⟨zr, 0, none⟩ = some (.string s) ∧ w'.cell? ⟨zr, 1, none⟩ = some (.int .i64 a)) (ds := [14]) #[false, false, false, false, false, false, false, false, false, false, false, false, false, false, false, false, false] (by kernel_rfl) rfl rfl ⟨AR.out.cell 0, AR.out.cell 1⟩ (fun hHeld => ?_)
  replace AR := Lib.hid (at_drew AR.out)
  replace AQ := Lib.hid (at_drew AQ.out)
  replace HK := Lib.hid (chg_drew HK.out)
  generalize w1.drew = w3 at AR AQ HK hHeld ⊢
  refine pure_ (i := 0) (N := some 7) (v := ?_) (a' := ?_) #[true, false, false, false, false, false, false, false, false, false, false, false, false, false, false, false, false] rfl rfl (by kernel_rfl) (fun _ _ _ h => h) (Or.inl ⟨by rfl, ?_⟩) ?_ ?_
  rotate_left
  · intro w'
    go_simp
    with_reducible rfl
  rotate_left
  · simp only [Act.put, List.setIfInBounds_toArray, List.set_cons_zero, List.set_cons_succ, i64_w, i32_w]
    rfl
  refine pure_ (i := 1) (N := some 8) (v := ?_) (a' := ?_) #[true, true, false, false, false, false, false, false, false, false, false, false, false, false, false, false, false] rfl rfl (by kernel_rfl) (fun _ _ _ h => h) (Or.inl ⟨by rfl, ?_⟩) ?_ ?_
  rotate_left
  · intro w'
    go_simp
    with_reducible rfl
  rotate_left
  · simp only [Act.put, List.setIfInBounds_toArray, List.set_cons_zero, List.set_cons_succ, i64_w, i32_w]
    rfl
  refine pure_ (i := 2) (N := some 9) (v := ?_) (a' := ?_) #[true, true, true, false, false, false, false, false, false, false, false, false, false, false, false, false, false] rfl rfl (by kernel_rfl) (fun _ _ _ h => h) (Or.inl ⟨by rfl, ?_⟩) ?_ ?_
  rotate_left
  · intro w'
    go_simp
    with_reducible rfl
  rotate_left
  · simp only [Act.put, List.setIfInBounds_toArray, List.set_cons_zero, List.set_cons_succ, i64_w, i32_w]
    rfl
  refine pure_ (i := 4) (N := some 11) (v := ?_) (a' := ?_) #[true, true, true, false, true, false, false, false, false, false, false, false, false, false, false, false, false] rfl rfl (by kernel_rfl) (fun _ _ _ h => h) (Or.inl ⟨by rfl, ?_⟩) ?_ ?_
  rotate_left
  · intro w'
    go_simp
    with_reducible rfl
  rotate_left
  · simp only [Act.put, List.setIfInBounds_toArray, List.set_cons_zero, List.set_cons_succ, i64_w, i32_w]
    rfl
  refine pure_ (i := 5) (N := some 12) (v := ?_) (a' := ?_) #[true, true, true, false, true, true, false, false, false, false, false, false, false, false, false, false, false] rfl rfl (by kernel_rfl) (fun _ _ _ h => h) (Or.inl ⟨by rfl, ?_⟩) ?_ ?_
  rotate_left
  · intro w'
    go_simp
    with_reducible rfl
  rotate_left
  · simp only [Act.put, List.setIfInBounds_toArray, List.set_cons_zero, List.set_cons_succ, i64_w, i32_w]
    rfl
  refine pure_ (i := 6) (N := some 13) (v := ?_) (a' := ?_) #[true, true, true, false, true, true, true, false, false, false, false, false, false, false, false, false, false] rfl rfl (by kernel_rfl) (fun _ _ _ h => h) (Or.inl ⟨by rfl, ?_⟩) ?_ ?_
  rotate_left
  · intro w'
    go_simp
    with_reducible rfl
  rotate_left
  · simp only [Act.put, List.setIfInBounds_toArray, List.set_cons_zero, List.set_cons_succ, i64_w, i32_w]
    rfl
  refine take_ (i := 3) (N := some 10) (v := ?_) (a' := ?_) #[true, true, true, true, true, true, true, false, false, false, false, false, false, false, false, false, false] rfl rfl (by kernel_rfl) (fun _ _ _ h => h) (Or.inl ⟨by rfl, ?_⟩) hHeld ?_ ?_
  rotate_left
  · rintro w' ⟨s0, s1⟩
    go_simp
    with_reducible rfl
  rotate_left
  · simp only [Act.put, List.setIfInBounds_toArray, List.set_cons_zero, List.set_cons_succ, i64_w, i32_w]
    rfl
  refine take_ (i := 7) (N := some 14) (v := ?_) (a' := ?_) #[true, true, true, true, true, true, true, true, false, false, false, false, false, false, false, false, false] rfl rfl (by kernel_rfl) (fun _ _ _ h => h) (Or.inl ⟨by rfl, ?_⟩) hHeld ?_ ?_
  rotate_left
  · rintro w' ⟨s0, s1⟩
    go_simp
    with_reducible rfl
  rotate_left
  · simp only [Act.put, List.setIfInBounds_toArray, List.set_cons_zero, List.set_cons_succ, i64_w, i32_w]
    rfl
  refine join_ (σ := Nat) 3 #[true, true, true, true, true, true, true, true, true, true, true, true, true, true, false, false, false] (fun s9 => [(15, .tuple #[.agg #[.string k, .int .u64 p, .int .u32 l, .int .u8 n, .int .u8 d, .int .u32 f, .int .u64 x, .string b], .int .i64 nx, .int .i64 0]), (3, .pointer (some ⟨s9, 0, none⟩)), (6, .tuple #[.agg #[.string k, .int .u64 p, .int .u32 l, .int .u8 n, .int .u8 d, .int .u32 f, .int .u64 x, .string b], .int .i64 nx, .int .i64 0]), (16, .agg #[.string k, .int .u64 p, .int .u32 l, .int .u8 n, .int .u8 d, .int .u32 f, .int .u64 x, .string b]), (17, .int .i64 nx), (18, .int .i64 0)]) (fun s9 w' => At w' s9 #[.string ⟨#[]⟩, .int .u64 0, .int .u32 0, .int .u8 0, .int .u8 0, .int .u32 0, .int .u64 0, .string ⟨#[]⟩] 54 ∧ At w' zr #[.string s, .int .i64 a] 89 ∧ At w' w.heap.size #[.string ⟨#[]⟩, .int .u64 0, .int .u32 0, .int .u8 0, .int .u8 0, .int .u32 0, .int .u64 0, .string ⟨#[]⟩] 54 ∧ Chg (fun x => x = zr) w w' ∧ w.heap.size < s9 ∧ s9 ≠ zr) ?_ ?_
  rotate_left
  · intro hCont
    refine two_ (i := 8) (j := 13) (Ni := some 15) (Nj := some 3) #[true, true, true, true, true, true, true, true, true, false, false, false, false, false, false, false, false] #[true, true, true, true, true, true, true, true, false, false, false, false, false, true, false, false, false] rfl rfl rfl rfl (by kernel_rfl) (by decide) (by decide) (fun K hK => ?_) (fun K hK => ?_)
    · skip
      refine goes_ Try.func75 (by kernel_rfl) rfl #[.string s, .int .i64 a] (by rfl) rfl rfl (by simp only [List.map_toArray, List.map_cons, List.map_nil]; rfl) ?_
      with_reducible refine (GT.out _).mono ?_
      rintro e wB ⟨rfl, hb⟩
      refine ⟨_, rfl, ?_⟩
      have ARB := Lib.hid (at_below AR.out hb)
      have AQB := Lib.hid (at_below AQ.out hb)
      have HKB := Lib.hid (chg_below HK.out hb)
      refine hK.out _ _ ⟨ARB.out.cell 0, ARB.out.cell 1⟩ (fun hHeld => ?_)
      clear hK K
      refine norm_ (a' := ?_) ?_ ?_
      rotate_left
      · show Act.put _ (some 15) _ = _
        simp only [Act.put, List.setIfInBounds_toArray, List.set_cons_zero, List.set_cons_succ, i64_w, i32_w]
        rfl
      refine pure_ (i := 9) (N := some 6) (v := ?_) (a' := ?_) #[true, true, true, true, true, true, true, true, true, true, false, false, false, false, false, false, false] rfl rfl (by kernel_rfl) (fun _ _ _ h => h) (Or.inl ⟨by rfl, ?_⟩) ?_ ?_
      rotate_left
      · intro w'
        go_simp
        with_reducible rfl
      rotate_left
      · simp only [Act.put, List.setIfInBounds_toArray, List.set_cons_zero, List.set_cons_succ, i64_w, i32_w]
        rfl
      refine pure_ (i := 10) (N := some 16) (v := ?_) (a' := ?_) #[true, true, true, true, true, true, true, true, true, true, true, false, false, false, false, false, false] rfl rfl (by kernel_rfl) (fun _ _ _ h => h) (Or.inl ⟨by rfl, ?_⟩) ?_ ?_
      rotate_left
      · intro w'
        go_simp
        with_reducible rfl
      rotate_left
      · simp only [Act.put, List.setIfInBounds_toArray, List.set_cons_zero, List.set_cons_succ, i64_w, i32_w]
        rfl
      refine pure_ (i := 11) (N := some 17) (v := ?_) (a' := ?_) #[true, true, true, true, true, true, true, true, true, true, true, true, false, false, false, false, false] rfl rfl (by kernel_rfl) (fun _ _ _ h => h) (Or.inl ⟨by rfl, ?_⟩) ?_ ?_
      rotate_left
      · intro w'
        go_simp
        with_reducible rfl
      rotate_left
      · simp only [Act.put, List.setIfInBounds_toArray, List.set_cons_zero, List.set_cons_succ, i64_w, i32_w]
        rfl
      refine pure_ (i := 12) (N := some 18) (v := ?_) (a' := ?_) #[true, true, true, true, true, true, true, true, true, true, true, true, true, false, false, false, false] rfl rfl (by kernel_rfl) (fun _ _ _ h => h) (Or.inl ⟨by rfl, ?_⟩) ?_ ?_
      rotate_left
      · intro w'
        go_simp
        with_reducible rfl
      rotate_left
      · simp only [Act.put, List.setIfInBounds_toArray, List.set_cons_zero, List.set_cons_succ, i64_w, i32_w]
        rfl
      refine one_ (i := 13) (N := some 3) #[true, true, true, true, true, true, true, true, true, true, true, true, true, true, false, false, false] rfl rfl (by kernel_rfl) (by decide) (fun K hK => ?_)
      refine value_ (w1 := ?_) (v := ?_) (by rfl) rfl ?_ ?_
      rotate_left 2
      · go_simp
        constructor
        · rfl
        · rfl
      have ARC := Lib.hid (at_alloc (o := .cells #[.string ⟨#[]⟩, .int .u64 0, .int .u32 0, .int .u8 0, .int .u8 0, .int .u32 0, .int .u64 0, .string ⟨#[]⟩] 54) ARB.out)
      have AQC := Lib.hid (at_alloc (o := .cells #[.string ⟨#[]⟩, .int .u64 0, .int .u32 0, .int .u8 0, .int .u8 0, .int .u32 0, .int .u64 0, .string ⟨#[]⟩] 54) AQB.out)
      refine hK.out _ _ ⟨ARC.out.cell 0, ARC.out.cell 1⟩ (fun hHeld => ?_)
      clear hK K
      refine norm_ (a' := ?_) ?_ ?_
      rotate_left
      · show Act.put _ (some 3) _ = _
        simp only [Act.put, List.setIfInBounds_toArray, List.set_cons_zero, List.set_cons_succ, i64_w, i32_w]
        rfl
      exact norm_ (by simp only [putAll, Act.put, List.setIfInBounds_toArray, List.set_cons_zero, List.set_cons_succ]) (hCont wB.heap.size _ ⟨at_new wB #[.string ⟨#[]⟩, .int .u64 0, .int .u32 0, .int .u8 0, .int .u8 0, .int .u32 0, .int .u64 0, .string ⟨#[]⟩] 54, ARC.out, AQC.out, chg_alloc HKB.out, AQB.out.lt, (by have := ARB.out.lt; omega)⟩)
    · skip
      refine value_ (w1 := ?_) (v := ?_) (by rfl) rfl ?_ ?_
      rotate_left 2
      · go_simp
        constructor
        · rfl
        · rfl
      have ARA := Lib.hid (at_alloc (o := .cells #[.string ⟨#[]⟩, .int .u64 0, .int .u32 0, .int .u8 0, .int .u8 0, .int .u32 0, .int .u64 0, .string ⟨#[]⟩] 54) AR.out)
      have AQA := Lib.hid (at_alloc (o := .cells #[.string ⟨#[]⟩, .int .u64 0, .int .u32 0, .int .u8 0, .int .u8 0, .int .u32 0, .int .u64 0, .string ⟨#[]⟩] 54) AQ.out)
      have AZA := Lib.hid (at_new w3 #[.string ⟨#[]⟩, .int .u64 0, .int .u32 0, .int .u8 0, .int .u8 0, .int .u32 0, .int .u64 0, .string ⟨#[]⟩] 54)
      have HKA := Lib.hid (chg_alloc (o := .cells #[.string ⟨#[]⟩, .int .u64 0, .int .u32 0, .int .u8 0, .int .u8 0, .int .u32 0, .int .u64 0, .string ⟨#[]⟩] 54) HK.out)
      generalize w3.alloc (.cells #[.string ⟨#[]⟩, .int .u64 0, .int .u32 0, .int .u8 0, .int .u8 0, .int .u32 0, .int .u64 0, .string ⟨#[]⟩] 54) = wA at *
      refine hK.out _ _ ⟨ARA.out.cell 0, ARA.out.cell 1⟩ (fun hHeld => ?_)
      clear hK K
      refine norm_ (a' := ?_) ?_ ?_
      rotate_left
      · show Act.put _ (some 3) _ = _
        simp only [Act.put, List.setIfInBounds_toArray, List.set_cons_zero, List.set_cons_succ, i64_w, i32_w]
        rfl
      refine one_ (i := 8) (N := some 15) #[true, true, true, true, true, true, true, true, true, false, false, false, false, true, false, false, false] rfl rfl (by kernel_rfl) (by decide) (fun K hK => ?_)
      refine goes_ Try.func75 (by kernel_rfl) rfl #[.string s, .int .i64 a] (by rfl) rfl rfl (by simp only [List.map_toArray, List.map_cons, List.map_nil]; rfl) ?_
      with_reducible refine (GT.out _).mono ?_
      rintro e wB ⟨rfl, hb⟩
      refine ⟨_, rfl, ?_⟩
      have ARB := Lib.hid (at_below ARA.out hb)
      have AQB := Lib.hid (at_below AQA.out hb)
      have HKB := Lib.hid (chg_below HKA.out hb)
      refine hK.out _ _ ⟨ARB.out.cell 0, ARB.out.cell 1⟩ (fun hHeld => ?_)
      clear hK K
      refine norm_ (a' := ?_) ?_ ?_
      rotate_left
      · show Act.put _ (some 15) _ = _
        simp only [Act.put, List.setIfInBounds_toArray, List.set_cons_zero, List.set_cons_succ, i64_w, i32_w]
        rfl
      refine pure_ (i := 9) (N := some 6) (v := ?_) (a' := ?_) #[true, true, true, true, true, true, true, true, true, true, false, false, false, true, false, false, false] rfl rfl (by kernel_rfl) (fun _ _ _ h => h) (Or.inl ⟨by rfl, ?_⟩) ?_ ?_
      rotate_left
      · intro w'
        go_simp
        with_reducible rfl
      rotate_left
      · simp only [Act.put, List.setIfInBounds_toArray, List.set_cons_zero, List.set_cons_succ, i64_w, i32_w]
        rfl
      refine pure_ (i := 10) (N := some 16) (v := ?_) (a' := ?_) #[true, true, true, true, true, true, true, true, true, true, true, false, false, true, false, false, false] rfl rfl (by kernel_rfl) (fun _ _ _ h => h) (Or.inl ⟨by rfl, ?_⟩) ?_ ?_
      rotate_left
      · intro w'
        go_simp
        with_reducible rfl
      rotate_left
      · simp only [Act.put, List.setIfInBounds_toArray, List.set_cons_zero, List.set_cons_succ, i64_w, i32_w]
        rfl
      refine pure_ (i := 11) (N := some 17) (v := ?_) (a' := ?_) #[true, true, true, true, true, true, true, true, true, true, true, true, false, true, false, false, false] rfl rfl (by kernel_rfl) (fun _ _ _ h => h) (Or.inl ⟨by rfl, ?_⟩) ?_ ?_
      rotate_left
      · intro w'
        go_simp
        with_reducible rfl
      rotate_left
      · simp only [Act.put, List.setIfInBounds_toArray, List.set_cons_zero, List.set_cons_succ, i64_w, i32_w]
        rfl
      refine pure_ (i := 12) (N := some 18) (v := ?_) (a' := ?_) #[true, true, true, true, true, true, true, true, true, true, true, true, true, true, false, false, false] rfl rfl (by kernel_rfl) (fun _ _ _ h => h) (Or.inl ⟨by rfl, ?_⟩) ?_ ?_
      rotate_left
      · intro w'
        go_simp
        with_reducible rfl
      rotate_left
      · simp only [Act.put, List.setIfInBounds_toArray, List.set_cons_zero, List.set_cons_succ, i64_w, i32_w]
        rfl
      exact norm_ (by simp only [putAll, Act.put, List.setIfInBounds_toArray, List.set_cons_zero, List.set_cons_succ]) (hCont w3.heap.size _ ⟨at_below AZA.out hb, ARB.out, AQB.out, HKB.out, AQ.out.lt, (by have := AR.out.lt; omega)⟩)
  rintro zx wD ⟨f1, f2, f3, f4, f5, f6⟩
  have hHeld : wD.cell? ⟨zr, 0, none⟩ = some (.string s) ∧ wD.cell? ⟨zr, 1, none⟩ = some (.int .i64 a) := ⟨f2.cell 0, f2.cell 1⟩
  have AXD := Lib.hid f1
  have ARD := Lib.hid f2
  have AQD := Lib.hid f3
  have HKD := Lib.hid f4
  have HX := Lib.hid (And.intro f6 f5)
  clear f1 f2 f3 f4 f5 f6
  refine norm_ (a' := ?_) ?_ ?_
  rotate_left
  · simp only [putAll, Act.put, List.setIfInBounds_toArray, List.set_cons_zero, List.set_cons_succ]
    rfl
  refine last_ (i := 14) (N := none) #[true, true, true, true, true, true, true, true, true, true, true, true, true, true, true, false, false] rfl rfl (by kernel_rfl) (by decide) (fun K hK => ?_)
  have ez0 : wD.cell? ⟨zx, 0, none⟩ = some (.string ⟨#[]⟩) := AXD.out.cell 0
  have fz0 : wD.frozen? ⟨zx, 0, none⟩ = false := AXD.out.free 0
  have ez1 : wD.cell? ⟨zx, 1, none⟩ = some (.int .u64 0) := AXD.out.cell 1
  have fz1 : wD.frozen? ⟨zx, 1, none⟩ = false := AXD.out.free 1
  have ez2 : wD.cell? ⟨zx, 2, none⟩ = some (.int .u32 0) := AXD.out.cell 2
  have fz2 : wD.frozen? ⟨zx, 2, none⟩ = false := AXD.out.free 2
  have ez3 : wD.cell? ⟨zx, 3, none⟩ = some (.int .u8 0) := AXD.out.cell 3
  have fz3 : wD.frozen? ⟨zx, 3, none⟩ = false := AXD.out.free 3
  have ez4 : wD.cell? ⟨zx, 4, none⟩ = some (.int .u8 0) := AXD.out.cell 4
  have fz4 : wD.frozen? ⟨zx, 4, none⟩ = false := AXD.out.free 4
  have ez5 : wD.cell? ⟨zx, 5, none⟩ = some (.int .u32 0) := AXD.out.cell 5
  have fz5 : wD.frozen? ⟨zx, 5, none⟩ = false := AXD.out.free 5
  have ez6 : wD.cell? ⟨zx, 6, none⟩ = some (.int .u64 0) := AXD.out.cell 6
  have fz6 : wD.frozen? ⟨zx, 6, none⟩ = false := AXD.out.free 6
  have ez7 : wD.cell? ⟨zx, 7, none⟩ = some (.string ⟨#[]⟩) := AXD.out.cell 7
  have fz7 : wD.frozen? ⟨zx, 7, none⟩ = false := AXD.out.free 7
  refine skip_ (w1 := ?_) (by rfl) rfl ?_ ?_
  rotate_left
  · go_simp
    rfl
  refine hK.out _ _ ?_
  clear hK K
  refine pure_ (i := 15) (N := some 4) (v := ?_) (a' := ?_) #[true, true, true, true, true, true, true, true, true, true, true, true, true, true, true, true, false] rfl rfl (by kernel_rfl) (fun _ _ _ h => h) (Or.inl ⟨by rfl, ?_⟩) ?_ ?_
  rotate_left
  · intro w'
    go_simp
    with_reducible rfl
  rotate_left
  · simp only [Act.put, List.setIfInBounds_toArray, List.set_cons_zero, List.set_cons_succ, i64_w, i32_w]
    rfl
  refine pure_ (i := 16) (N := some 5) (v := ?_) (a' := ?_) #[true, true, true, true, true, true, true, true, true, true, true, true, true, true, true, true, true] rfl rfl (by kernel_rfl) (fun _ _ _ h => h) (Or.inl ⟨by rfl, ?_⟩) ?_ ?_
  rotate_left
  · intro w'
    go_simp
    with_reducible rfl
  rotate_left
  · simp only [Act.put, List.setIfInBounds_toArray, List.set_cons_zero, List.set_cons_succ, i64_w, i32_w]
    rfl
  refine done_ (by kernel_rfl) ?_
  have AX5 := Lib.hid (show At ((((((((wD.setCell ⟨zx, 0, none⟩ (.string k)).setCell ⟨zx, 1, none⟩ (.int .u64 p)).setCell ⟨zx, 2, none⟩ (.int .u32 l)).setCell ⟨zx, 3, none⟩ (.int .u8 n)).setCell ⟨zx, 4, none⟩ (.int .u8 d)).setCell ⟨zx, 5, none⟩ (.int .u32 f)).setCell ⟨zx, 6, none⟩ (.int .u64 x)).setCell ⟨zx, 7, none⟩ (.string b)) zx #[.string k, .int .u64 p, .int .u32 l, .int .u8 n, .int .u8 d, .int .u32 f, .int .u64 x, .string b] 54 from at_set8 AXD.out)
  have AR5 := Lib.hid (show At ((((((((wD.setCell ⟨zx, 0, none⟩ (.string k)).setCell ⟨zx, 1, none⟩ (.int .u64 p)).setCell ⟨zx, 2, none⟩ (.int .u32 l)).setCell ⟨zx, 3, none⟩ (.int .u8 n)).setCell ⟨zx, 4, none⟩ (.int .u8 d)).setCell ⟨zx, 5, none⟩ (.int .u32 f)).setCell ⟨zx, 6, none⟩ (.int .u64 x)).setCell ⟨zx, 7, none⟩ (.string b)) zr #[.string s, .int .i64 a] 89 from at_set8_ne ARD.out (fun e => HX.out.1 e.symm))
  have AQ5 := Lib.hid (show At ((((((((wD.setCell ⟨zx, 0, none⟩ (.string k)).setCell ⟨zx, 1, none⟩ (.int .u64 p)).setCell ⟨zx, 2, none⟩ (.int .u32 l)).setCell ⟨zx, 3, none⟩ (.int .u8 n)).setCell ⟨zx, 4, none⟩ (.int .u8 d)).setCell ⟨zx, 5, none⟩ (.int .u32 f)).setCell ⟨zx, 6, none⟩ (.int .u64 x)).setCell ⟨zx, 7, none⟩ (.string b)) w.heap.size #[.string ⟨#[]⟩, .int .u64 0, .int .u32 0, .int .u8 0, .int .u8 0, .int .u32 0, .int .u64 0, .string ⟨#[]⟩] 54 from at_set8_ne AQD.out (by have := HX.out; omega))
  have HK5 := Lib.hid (show Chg (fun x => x = zr) w ((((((((wD.setCell ⟨zx, 0, none⟩ (.string k)).setCell ⟨zx, 1, none⟩ (.int .u64 p)).setCell ⟨zx, 2, none⟩ (.int .u32 l)).setCell ⟨zx, 3, none⟩ (.int .u8 n)).setCell ⟨zx, 4, none⟩ (.int .u8 d)).setCell ⟨zx, 5, none⟩ (.int .u32 f)).setCell ⟨zx, 6, none⟩ (.int .u64 x)).setCell ⟨zx, 7, none⟩ (.string b)) from chg_set_new (chg_set_new (chg_set_new (chg_set_new (chg_set_new (chg_set_new (chg_set_new (chg_set_new (HKD.out) (by have := HX.out; omega)) (by have := HX.out; omega)) (by have := HX.out; omega)) (by have := HX.out; omega)) (by have := HX.out; omega)) (by have := HX.out; omega)) (by have := HX.out; omega)) (by have := HX.out; omega))
  clear AXD ARD AQD HKD ez0 fz0 ez1 fz1 ez2 fz2 ez3 fz3 ez4 fz4 ez5 fz5 ez6 fz6 ez7 fz7
  generalize ((((((((wD.setCell ⟨zx, 0, none⟩ (.string k)).setCell ⟨zx, 1, none⟩ (.int .u64 p)).setCell ⟨zx, 2, none⟩ (.int .u32 l)).setCell ⟨zx, 3, none⟩ (.int .u8 n)).setCell ⟨zx, 4, none⟩ (.int .u8 d)).setCell ⟨zx, 5, none⟩ (.int .u32 f)).setCell ⟨zx, 6, none⟩ (.int .u64 x)).setCell ⟨zx, 7, none⟩ (.string b)) = w5 at *
  have ee : w5.cell? ⟨zr, 1, none⟩ = some (.int .i64 a) := AR5.out.cell 1
  have ff : w5.frozen? ⟨zr, 1, none⟩ = false := AR5.out.free 1
  go_upto_region 5 with (fail)
  have AR7 := Lib.hid (show At (w5.setCell ⟨zr, 1, none⟩ (.int .i64 nx)) zr #[.string s, .int .i64 nx] 89 from at_set' AR5.out rfl)
  have AX7 := Lib.hid (at_set_ne (b' := zr) (i := 1) (v := .int .i64 nx) AX5.out HX.out.1)
  have AQ7 := Lib.hid (at_set_ne (b' := zr) (i := 1) (v := .int .i64 nx) AQ5.out HN.out)
  have HK7 := Lib.hid (chg_set (b := zr) (i := 1) (v := .int .i64 nx) HK5.out rfl)
  clear AX5 AR5 AQ5 HK5 ee ff
  generalize w5.setCell ⟨zr, 1, none⟩ (.int .i64 nx) = w7 at *
  have e0 : w7.cell? ⟨zx, 0, none⟩ = some (.string k) := AX7.out.cell 0
  have e1 : w7.cell? ⟨zx, 1, none⟩ = some (.int .u64 p) := AX7.out.cell 1
  have e2 : w7.cell? ⟨zx, 2, none⟩ = some (.int .u32 l) := AX7.out.cell 2
  have e3 : w7.cell? ⟨zx, 3, none⟩ = some (.int .u8 n) := AX7.out.cell 3
  have e4 : w7.cell? ⟨zx, 4, none⟩ = some (.int .u8 d) := AX7.out.cell 4
  have e5 : w7.cell? ⟨zx, 5, none⟩ = some (.int .u32 f) := AX7.out.cell 5
  have e6 : w7.cell? ⟨zx, 6, none⟩ = some (.int .u64 x) := AX7.out.cell 6
  have e7 : w7.cell? ⟨zx, 7, none⟩ = some (.string b) := AX7.out.cell 7
  have g0 : w7.cell? ⟨w.heap.size, 0, none⟩ = some (.string ⟨#[]⟩) := AQ7.out.cell 0
  have f0 : w7.frozen? ⟨w.heap.size, 0, none⟩ = false := AQ7.out.free 0
  have g1 : w7.cell? ⟨w.heap.size, 1, none⟩ = some (.int .u64 0) := AQ7.out.cell 1
  have f1 : w7.frozen? ⟨w.heap.size, 1, none⟩ = false := AQ7.out.free 1
  have g2 : w7.cell? ⟨w.heap.size, 2, none⟩ = some (.int .u32 0) := AQ7.out.cell 2
  have f2 : w7.frozen? ⟨w.heap.size, 2, none⟩ = false := AQ7.out.free 2
  have g3 : w7.cell? ⟨w.heap.size, 3, none⟩ = some (.int .u8 0) := AQ7.out.cell 3
  have f3 : w7.frozen? ⟨w.heap.size, 3, none⟩ = false := AQ7.out.free 3
  have g4 : w7.cell? ⟨w.heap.size, 4, none⟩ = some (.int .u8 0) := AQ7.out.cell 4
  have f4 : w7.frozen? ⟨w.heap.size, 4, none⟩ = false := AQ7.out.free 4
  have g5 : w7.cell? ⟨w.heap.size, 5, none⟩ = some (.int .u32 0) := AQ7.out.cell 5
  have f5 : w7.frozen? ⟨w.heap.size, 5, none⟩ = false := AQ7.out.free 5
  have g6 : w7.cell? ⟨w.heap.size, 6, none⟩ = some (.int .u64 0) := AQ7.out.cell 6
  have f6 : w7.frozen? ⟨w.heap.size, 6, none⟩ = false := AQ7.out.free 6
  have g7 : w7.cell? ⟨w.heap.size, 7, none⟩ = some (.string ⟨#[]⟩) := AQ7.out.cell 7
  have f7 : w7.frozen? ⟨w.heap.size, 7, none⟩ = false := AQ7.out.free 7
  apply wp_region
  show wpOps _ _ _ [0, 1] _ _
  refine step_ (i := 0) rfl ?_
  refine value_ (N := some 27) (w1 := ?_) (v := ?_) (by rfl) rfl ?_ ?_
  rotate_left 2
  · go_simp
    constructor
    · rfl
    · rfl
  simp only [Act.put, List.setIfInBounds_toArray, List.set_cons_zero, List.set_cons_succ]
  refine step_ (i := 1) rfl ?_
  refine skip_ (w1 := ?_) (by rfl) rfl ?_ ?_
  rotate_left
  · go_simp
    rfl
  rw [wpOps]
  have AQ9 := Lib.hid (show At (((((((((w7.setCell ⟨w.heap.size, 0, none⟩ (.string k)).setCell ⟨w.heap.size, 1, none⟩ (.int .u64 p)).setCell ⟨w.heap.size, 2, none⟩ (.int .u32 l)).setCell ⟨w.heap.size, 3, none⟩ (.int .u8 n)).setCell ⟨w.heap.size, 4, none⟩ (.int .u8 d)).setCell ⟨w.heap.size, 5, none⟩ (.int .u32 f)).setCell ⟨w.heap.size, 6, none⟩ (.int .u64 x)).setCell ⟨w.heap.size, 7, none⟩ (.string b))) w.heap.size #[.string k, .int .u64 p, .int .u32 l, .int .u8 n, .int .u8 d, .int .u32 f, .int .u64 x, .string b] 54 from at_set8 AQ7.out)
  have AR9 := Lib.hid (show At (((((((((w7.setCell ⟨w.heap.size, 0, none⟩ (.string k)).setCell ⟨w.heap.size, 1, none⟩ (.int .u64 p)).setCell ⟨w.heap.size, 2, none⟩ (.int .u32 l)).setCell ⟨w.heap.size, 3, none⟩ (.int .u8 n)).setCell ⟨w.heap.size, 4, none⟩ (.int .u8 d)).setCell ⟨w.heap.size, 5, none⟩ (.int .u32 f)).setCell ⟨w.heap.size, 6, none⟩ (.int .u64 x)).setCell ⟨w.heap.size, 7, none⟩ (.string b))) zr #[.string s, .int .i64 nx] 89 from at_set8_ne AR7.out (fun e => HN.out e.symm))
  have HK9 := Lib.hid (show Chg (fun x => x = zr) w (((((((((w7.setCell ⟨w.heap.size, 0, none⟩ (.string k)).setCell ⟨w.heap.size, 1, none⟩ (.int .u64 p)).setCell ⟨w.heap.size, 2, none⟩ (.int .u32 l)).setCell ⟨w.heap.size, 3, none⟩ (.int .u8 n)).setCell ⟨w.heap.size, 4, none⟩ (.int .u8 d)).setCell ⟨w.heap.size, 5, none⟩ (.int .u32 f)).setCell ⟨w.heap.size, 6, none⟩ (.int .u64 x)).setCell ⟨w.heap.size, 7, none⟩ (.string b))) from chg_set_new (chg_set_new (chg_set_new (chg_set_new (chg_set_new (chg_set_new (chg_set_new (chg_set_new (HK7.out) (Nat.le_refl _)) (Nat.le_refl _)) (Nat.le_refl _)) (Nat.le_refl _)) (Nat.le_refl _)) (Nat.le_refl _)) (Nat.le_refl _)) (Nat.le_refl _))
  clear AQ7 AR7 HK7 AX7 e0 g0 f0 e1 g1 f1 e2 g2 f2 e3 g3 f3 e4 g4 f4 e5 g5 f5 e6 g6 f6 e7 g7 f7
  generalize ((((((((w7.setCell ⟨w.heap.size, 0, none⟩ (.string k)).setCell ⟨w.heap.size, 1, none⟩ (.int .u64 p)).setCell ⟨w.heap.size, 2, none⟩ (.int .u32 l)).setCell ⟨w.heap.size, 3, none⟩ (.int .u8 n)).setCell ⟨w.heap.size, 4, none⟩ (.int .u8 d)).setCell ⟨w.heap.size, 5, none⟩ (.int .u32 f)).setCell ⟨w.heap.size, 6, none⟩ (.int .u64 x)).setCell ⟨w.heap.size, 7, none⟩ (.string b)) = w9 at *
  go_wp2_with (fail)
  exact ⟨rfl, _, res35 _ w.heap.size _ _ _ _ _ _ _ _ _ rfl AQ9.out, rfl, AR9.out, HK9.out⟩
end Go.Proofs.Ytdjompbhlkgmbaa.Msg
end
section
/- list at its five types where all is right (own text; written by wip/tools/gen_msglist.py). -/
namespace Go.Proofs.Ytdjompbhlkgmbaa.Msg
open Go.RowKit Go.Proofs.Ytdjompbhlkgmbaa.Mem Go.Proofs.YtdjompbhlkgmbaaW.PrintWords Go.Proofs.YtdjompbhlkgmbaaW.PrintLast Go.Proofs.YtdjompbhlkgmbaaW.PrintMore Go.Proofs.Ytdjompbhlkgmbaa.PMsg
set_option linter.unusedVariables false
set_option linter.unusedSimpArgs false
theorem chg_belowB {S : Nat → Prop} {w W w1 : World} (h : Chg S w W) (k : Below w.heap.size W w1) : Chg S w w1 :=
  ⟨k.os.trans h.os, k.tape.trans h.tape, k.output.trans h.output, Nat.le_trans h.size k.size, fun i hi hn => (k.block i hi).trans (h.block i hi hn)⟩
theorem at_belowB {B : Nat} {w w1 : World} {b : Nat} {cs : Array Value} {t : TypeId} (h : At w b cs t) (k : Below B w w1) (hb : b < B) : At w1 b cs t := (k.block b hb).trans h
/-- A row of new blocks stays where only a block turns that was there. -/
theorem R_zr {α : Type} {d : Kd α} {e : Nat} {w w1 : World} {B zr : Nat} {v : Value} {xs : List α} (h : Kd.R d e w B (fun k => B ≤ k) v xs) (k : Chg (fun x => x = zr) w w1) (hz : zr < B) : Kd.R d e w1 B (fun k => B ≤ k) v xs :=
  Kd.R_step h (fun j hj hl => k.block j hl (fun g => by omega))
theorem info_72 : (Try.prog.info? 72).map (fun i => (i.zero, i.size, i.bytes)) = some (some (.agg #[.int .u8 0, .int .u8 0, .int .u32 0]), 3, 12) := by kernel_rfl
set_option maxRecDepth 100000 in
set_option maxHeartbeats 4000000 in
theorem list72_is (zr : Nat) (s : ByteArray) (a : Int) (l : List S72) (pos : Nat → Int) (hc : numR s a 0 4096 = ((l.length : Int), pos 0, 0)) (hn : l.length ≤ 4096)
    (hi : ∀ (i : Nat) (x : S72), l[i]? = some x → ∀ (W : World), At W zr #[.string s, .int .i64 (pos i)] 89 → Calls Try.prog 31 #[.pointer (some ⟨zr, 0, none⟩)] W fun e w' => e = .returned (.agg #[.int .u8 x.f0, .int .u8 x.f1.f0, .int .u32 x.f1.f1]) ∧ At w' zr #[.string s, .int .i64 (pos (i + 1))] 89 ∧ Chg (fun x => x = zr) W w')
    (hs : s.size ≤ 900000) (w : World) (hA : At w zr #[.string s, .int .i64 a] 89) :
    Calls Try.prog 30 #[.pointer (some ⟨zr, 0, none⟩), .func (.func 31) #[.pointer (some ⟨zr, 0, none⟩)] #[]] w fun e w' => ∃ v, e = .returned v ∧ Kd.R k72 72 w' w.heap.size (fun k => w.heap.size ≤ k) v l ∧ At w' zr #[.string s, .int .i64 (pos l.length)] 89 ∧ Chg (fun x => x = zr) w w' := by
  have HN0 := Lib.hid (rnum_is zr s a 0 4096 (l.length : Int) (pos 0) hc (by unfold maxLen; omega) w hA)
  have HI := Lib.hid hi
  have hzr := hA.lt
  have HZ := Lib.hid hzr
  clear hc hi hA hzr
  obtain ⟨n, hnn⟩ : ∃ n, n = l.length := ⟨_, rfl⟩
  rw [← hnn] at HN0 hn ⊢
  have HNN := Lib.hid hnn
  clear hnn
  go_enter Try.func30, Try.ntmps30
  go_wp2_with (go_at_call 29; (with_reducible refine HN0.out.mono ?_); rintro e w1 ⟨rfl, ha, hk⟩; have HA := Lib.hid ha; have HK := Lib.hid hk; clear ha hk HN0)
  go_loopw [5, 8] (fun v5 v8 w' => ∃ (i : Nat) (y : Int) (u : Value), i ≤ n ∧ v8 = .int .u64 y ∧ u = v5 ∧ Hid (y = (i : Int)) ∧ Hid (Kd.R k72 72 w' w.heap.size (fun k => w.heap.size ≤ k) u (l.take i)) ∧ Hid (At w' zr #[.string s, .int .i64 (pos i)] 89) ∧ Hid (Chg (fun x => x = zr) w w')) (fun v5 v8 _ => n - (intOf v8).toNat)
  case atStart => exact ⟨0, 0, _, Nat.zero_le _, rfl, rfl, Lib.hid rfl, Lib.hid (Kd.R_nil _ _ _ _ _), HA, HK⟩
  case round =>
    clear HA HK
    obtain ⟨i, y, u, hi, rfl, rfl, HY, HR, HA, HK⟩ := hrel
    by_cases hlt : i < n
    · have hil : i < l.length := by rw [← HNN.out]; exact hlt
      have vj : IntKind.u64.wrap (y + 1) = y + 1 := IntWalk.u64_in _ ⟨by have := HY.out; omega, by have := HY.out; omega⟩
      have hq1 : decide (y < (n : Int)) = true := decide_eq_true (by have := HY.out; omega)
      have HT := Lib.hid (List.take_succ_eq_append_getElem hil)
      have HLN := Lib.hid (show (l.take i).length ≤ 4096 from by rw [List.length_take]; omega)
      have hC := HI.out i l[i] (List.getElem?_eq_getElem hil)
      generalize l[i] = x at *
      have CP := Lib.hid (hC wr HA.out)
      clear hC hil
      go_wp2_with (first
        | (go_at_call 31; (with_reducible refine CP.out.mono ?_); rintro e W ⟨rfl, ha, hk⟩; have HA2 := Lib.hid ha; have HR2 := Lib.hid (R_zr HR.out hk HZ.out); have HK2 := Lib.hid (chg_then HK.out hk); clear ha hk HA HR HK CP)
        | ((with_reducible refine gate_dst (N := 14) rfl ?_); refine Kd.R_append k72 (w0 := W) w.heap.size (by rfl) (.tmp 10) (.tmp 13) 23 72 (.agg #[.int .u8 0, .int .u8 0, .int .u32 0]) 12 rfl Try.underlying23 info_72 rfl (by decide) (by omega) u (l.take i) x [.int .u8 x.f0, .int .u8 x.f1.f0, .int .u32 x.f1.f1] (fun k => w.heap.size ≤ k) (fun _ => False) rfl rfl ?aP (fun _ hk => hk.elim) ?aF ?aO ?aB ?aS ?aL ?_; (case aP => exact k72_mkM W _ _ x); (case aF => exact (fun k hk => Nat.le_trans HK2.out.size hk)); (case aO => exact HR2.out); (case aB => exact Below.refl _ _); (case aS => exact HK2.out.size); (case aL => have := HLN.out; omega); intro v1 w5 ho hb4 hg4 hat; have HR3 := Lib.hid ho; have HA3 := Lib.hid (at_belowB HA2.out hb4 HZ.out); have HK3 := Lib.hid (chg_belowB HK2.out hb4); clear ho hb4 hg4 hat HR2 HA2 HK2))
      exact ⟨⟨i + 1, y + 1, v1, by omega, rfl, rfl, Lib.hid (by have := HY.out; omega), Lib.hid (by rw [HT.out]; exact HR3.out), HA3, HK3⟩, by have := HY.out; simp [intOf]; omega⟩
    · have hie : i = n := by omega
      have hq2 : decide (y < (n : Int)) = false := decide_eq_false (by have := HY.out; omega)
      rw [show l.take i = l from by rw [hie, HNN.out]; exact List.take_length] at HR
      rw [hie] at HA
      clear hie hi hlt HY
      go_wp2_with (fail)
      go_ret
      exact ⟨_, rfl, HR.out, HA.out, HK.out⟩
theorem info_S : (Try.prog.info? 9).map (fun i => (i.zero, i.size, i.bytes)) = some (some (.string ⟨#[]⟩), 1, 16) := by kernel_rfl
set_option maxRecDepth 100000 in
set_option maxHeartbeats 4000000 in
theorem listS_is (zr : Nat) (s : ByteArray) (a : Int) (l : List ByteArray) (pos : Nat → Int) (hc : numR s a 0 4096 = ((l.length : Int), pos 0, 0)) (hn : l.length ≤ 4096)
    (hi : ∀ (i : Nat) (x : ByteArray), l[i]? = some x → ∀ (W : World), At W zr #[.string s, .int .i64 (pos i)] 89 → Calls Try.prog 33 #[.pointer (some ⟨zr, 0, none⟩)] W fun e w' => e = .returned (.string (x)) ∧ At w' zr #[.string s, .int .i64 (pos (i + 1))] 89 ∧ Chg (fun x => x = zr) W w')
    (hs : s.size ≤ 900000) (w : World) (hA : At w zr #[.string s, .int .i64 a] 89) :
    Calls Try.prog 32 #[.pointer (some ⟨zr, 0, none⟩), .func (.func 33) #[.pointer (some ⟨zr, 0, none⟩)] #[]] w fun e w' => ∃ v, e = .returned v ∧ Kd.R Kd.string 9 w' w.heap.size (fun k => w.heap.size ≤ k) v l ∧ At w' zr #[.string s, .int .i64 (pos l.length)] 89 ∧ Chg (fun x => x = zr) w w' := by
  have HN0 := Lib.hid (rnum_is zr s a 0 4096 (l.length : Int) (pos 0) hc (by unfold maxLen; omega) w hA)
  have HI := Lib.hid hi
  have hzr := hA.lt
  have HZ := Lib.hid hzr
  clear hc hi hA hzr
  obtain ⟨n, hnn⟩ : ∃ n, n = l.length := ⟨_, rfl⟩
  rw [← hnn] at HN0 hn ⊢
  have HNN := Lib.hid hnn
  clear hnn
  go_enter Try.func32, Try.ntmps32
  go_wp2_with (go_at_call 29; (with_reducible refine HN0.out.mono ?_); rintro e w1 ⟨rfl, ha, hk⟩; have HA := Lib.hid ha; have HK := Lib.hid hk; clear ha hk HN0)
  go_loopw [5, 8] (fun v5 v8 w' => ∃ (i : Nat) (y : Int) (u : Value), i ≤ n ∧ v8 = .int .u64 y ∧ u = v5 ∧ Hid (y = (i : Int)) ∧ Hid (Kd.R Kd.string 9 w' w.heap.size (fun k => w.heap.size ≤ k) u (l.take i)) ∧ Hid (At w' zr #[.string s, .int .i64 (pos i)] 89) ∧ Hid (Chg (fun x => x = zr) w w')) (fun v5 v8 _ => n - (intOf v8).toNat)
  case atStart => exact ⟨0, 0, _, Nat.zero_le _, rfl, rfl, Lib.hid rfl, Lib.hid (Kd.R_nil _ _ _ _ _), HA, HK⟩
  case round =>
    clear HA HK
    obtain ⟨i, y, u, hi, rfl, rfl, HY, HR, HA, HK⟩ := hrel
    by_cases hlt : i < n
    · have hil : i < l.length := by rw [← HNN.out]; exact hlt
      have vj : IntKind.u64.wrap (y + 1) = y + 1 := IntWalk.u64_in _ ⟨by have := HY.out; omega, by have := HY.out; omega⟩
      have hq1 : decide (y < (n : Int)) = true := decide_eq_true (by have := HY.out; omega)
      have HT := Lib.hid (List.take_succ_eq_append_getElem hil)
      have HLN := Lib.hid (show (l.take i).length ≤ 4096 from by rw [List.length_take]; omega)
      have hC := HI.out i l[i] (List.getElem?_eq_getElem hil)
      generalize l[i] = x at *
      have CP := Lib.hid (hC wr HA.out)
      clear hC hil
      go_wp2_with (first
        | (go_at_call 33; (with_reducible refine CP.out.mono ?_); rintro e W ⟨rfl, ha, hk⟩; have HA2 := Lib.hid ha; have HR2 := Lib.hid (R_zr HR.out hk HZ.out); have HK2 := Lib.hid (chg_then HK.out hk); clear ha hk HA HR HK CP)
        | ((with_reducible refine gate_dst (N := 14) rfl ?_); refine Kd.R_append Kd.string (w0 := W) w.heap.size (by rfl) (.tmp 10) (.tmp 13) 24 9 (.string ⟨#[]⟩) 16 rfl Try.underlying24 info_S rfl (by decide) (by omega) u (l.take i) x [.string x] (fun k => w.heap.size ≤ k) (fun _ => False) rfl rfl ?aP (fun _ hk => hk.elim) ?aF ?aO ?aB ?aS ?aL ?_; (case aP => exact rfl); (case aF => exact (fun k hk => Nat.le_trans HK2.out.size hk)); (case aO => exact HR2.out); (case aB => exact Below.refl _ _); (case aS => exact HK2.out.size); (case aL => have := HLN.out; omega); intro v1 w5 ho hb4 hg4 hat; have HR3 := Lib.hid ho; have HA3 := Lib.hid (at_belowB HA2.out hb4 HZ.out); have HK3 := Lib.hid (chg_belowB HK2.out hb4); clear ho hb4 hg4 hat HR2 HA2 HK2))
      exact ⟨⟨i + 1, y + 1, v1, by omega, rfl, rfl, Lib.hid (by have := HY.out; omega), Lib.hid (by rw [HT.out]; exact HR3.out), HA3, HK3⟩, by have := HY.out; simp [intOf]; omega⟩
    · have hie : i = n := by omega
      have hq2 : decide (y < (n : Int)) = false := decide_eq_false (by have := HY.out; omega)
      rw [show l.take i = l from by rw [hie, HNN.out]; exact List.take_length] at HR
      rw [hie] at HA
      clear hie hi hlt HY
      go_wp2_with (fail)
      go_ret
      exact ⟨_, rfl, HR.out, HA.out, HK.out⟩
theorem info_54 : (Try.prog.info? 54).map (fun i => (i.zero, i.size, i.bytes)) = some (some (.agg #[.string ⟨#[]⟩, .int .u64 0, .int .u32 0, .int .u8 0, .int .u8 0, .int .u32 0, .int .u64 0, .string ⟨#[]⟩]), 8, 64) := by kernel_rfl
set_option maxRecDepth 100000 in
set_option maxHeartbeats 4000000 in
theorem list54_is (zr : Nat) (s : ByteArray) (a : Int) (l : List S54) (pos : Nat → Int) (hc : numR s a 0 4096 = ((l.length : Int), pos 0, 0)) (hn : l.length ≤ 4096)
    (hi : ∀ (i : Nat) (x : S54), l[i]? = some x → ∀ (W : World), At W zr #[.string s, .int .i64 (pos i)] 89 → Calls Try.prog 35 #[.pointer (some ⟨zr, 0, none⟩)] W fun e w' => e = .returned (.agg #[.string x.f0, .int .u64 x.f1.f0, .int .u32 x.f1.f1, .int .u8 x.f1.f2, .int .u8 x.f2, .int .u32 x.f3, .int .u64 x.f4, .string x.f5]) ∧ At w' zr #[.string s, .int .i64 (pos (i + 1))] 89 ∧ Chg (fun x => x = zr) W w')
    (hs : s.size ≤ 900000) (w : World) (hA : At w zr #[.string s, .int .i64 a] 89) :
    Calls Try.prog 34 #[.pointer (some ⟨zr, 0, none⟩), .func (.func 35) #[.pointer (some ⟨zr, 0, none⟩)] #[]] w fun e w' => ∃ v, e = .returned v ∧ Kd.R k54 54 w' w.heap.size (fun k => w.heap.size ≤ k) v l ∧ At w' zr #[.string s, .int .i64 (pos l.length)] 89 ∧ Chg (fun x => x = zr) w w' := by
  have HN0 := Lib.hid (rnum_is zr s a 0 4096 (l.length : Int) (pos 0) hc (by unfold maxLen; omega) w hA)
  have HI := Lib.hid hi
  have hzr := hA.lt
  have HZ := Lib.hid hzr
  clear hc hi hA hzr
  obtain ⟨n, hnn⟩ : ∃ n, n = l.length := ⟨_, rfl⟩
  rw [← hnn] at HN0 hn ⊢
  have HNN := Lib.hid hnn
  clear hnn
  go_enter Try.func34, Try.ntmps34
  go_wp2_with (go_at_call 29; (with_reducible refine HN0.out.mono ?_); rintro e w1 ⟨rfl, ha, hk⟩; have HA := Lib.hid ha; have HK := Lib.hid hk; clear ha hk HN0)
  go_loopw [5, 8] (fun v5 v8 w' => ∃ (i : Nat) (y : Int) (u : Value), i ≤ n ∧ v8 = .int .u64 y ∧ u = v5 ∧ Hid (y = (i : Int)) ∧ Hid (Kd.R k54 54 w' w.heap.size (fun k => w.heap.size ≤ k) u (l.take i)) ∧ Hid (At w' zr #[.string s, .int .i64 (pos i)] 89) ∧ Hid (Chg (fun x => x = zr) w w')) (fun v5 v8 _ => n - (intOf v8).toNat)
  case atStart => exact ⟨0, 0, _, Nat.zero_le _, rfl, rfl, Lib.hid rfl, Lib.hid (Kd.R_nil _ _ _ _ _), HA, HK⟩
  case round =>
    clear HA HK
    obtain ⟨i, y, u, hi, rfl, rfl, HY, HR, HA, HK⟩ := hrel
    by_cases hlt : i < n
    · have hil : i < l.length := by rw [← HNN.out]; exact hlt
      have vj : IntKind.u64.wrap (y + 1) = y + 1 := IntWalk.u64_in _ ⟨by have := HY.out; omega, by have := HY.out; omega⟩
      have hq1 : decide (y < (n : Int)) = true := decide_eq_true (by have := HY.out; omega)
      have HT := Lib.hid (List.take_succ_eq_append_getElem hil)
      have HLN := Lib.hid (show (l.take i).length ≤ 4096 from by rw [List.length_take]; omega)
      have hC := HI.out i l[i] (List.getElem?_eq_getElem hil)
      generalize l[i] = x at *
      have CP := Lib.hid (hC wr HA.out)
      clear hC hil
      go_wp2_with (first
        | (go_at_call 35; (with_reducible refine CP.out.mono ?_); rintro e W ⟨rfl, ha, hk⟩; have HA2 := Lib.hid ha; have HR2 := Lib.hid (R_zr HR.out hk HZ.out); have HK2 := Lib.hid (chg_then HK.out hk); clear ha hk HA HR HK CP)
        | ((with_reducible refine gate_dst (N := 14) rfl ?_); refine Kd.R_append k54 (w0 := W) w.heap.size (by rfl) (.tmp 10) (.tmp 13) 25 54 (.agg #[.string ⟨#[]⟩, .int .u64 0, .int .u32 0, .int .u8 0, .int .u8 0, .int .u32 0, .int .u64 0, .string ⟨#[]⟩]) 64 rfl Try.underlying25 info_54 rfl (by decide) (by omega) u (l.take i) x [.string x.f0, .int .u64 x.f1.f0, .int .u32 x.f1.f1, .int .u8 x.f1.f2, .int .u8 x.f2, .int .u32 x.f3, .int .u64 x.f4, .string x.f5] (fun k => w.heap.size ≤ k) (fun _ => False) rfl rfl ?aP (fun _ hk => hk.elim) ?aF ?aO ?aB ?aS ?aL ?_; (case aP => exact k54_mkM W _ _ x); (case aF => exact (fun k hk => Nat.le_trans HK2.out.size hk)); (case aO => exact HR2.out); (case aB => exact Below.refl _ _); (case aS => exact HK2.out.size); (case aL => have := HLN.out; omega); intro v1 w5 ho hb4 hg4 hat; have HR3 := Lib.hid ho; have HA3 := Lib.hid (at_belowB HA2.out hb4 HZ.out); have HK3 := Lib.hid (chg_belowB HK2.out hb4); clear ho hb4 hg4 hat HR2 HA2 HK2))
      exact ⟨⟨i + 1, y + 1, v1, by omega, rfl, rfl, Lib.hid (by have := HY.out; omega), Lib.hid (by rw [HT.out]; exact HR3.out), HA3, HK3⟩, by have := HY.out; simp [intOf]; omega⟩
    · have hie : i = n := by omega
      have hq2 : decide (y < (n : Int)) = false := decide_eq_false (by have := HY.out; omega)
      rw [show l.take i = l from by rw [hie, HNN.out]; exact List.take_length] at HR
      rw [hie] at HA
      clear hie hi hlt HY
      go_wp2_with (fail)
      go_ret
      exact ⟨_, rfl, HR.out, HA.out, HK.out⟩
theorem info_56 : (Try.prog.info? 56).map (fun i => (i.zero, i.size, i.bytes)) = some (some (.agg #[.string ⟨#[]⟩, .int .u64 0, .int .u32 0, .int .u8 0, .int .u8 0]), 5, 40) := by kernel_rfl
set_option maxRecDepth 100000 in
set_option maxHeartbeats 4000000 in
theorem list56_is (zr : Nat) (s : ByteArray) (a : Int) (l : List S56) (pos : Nat → Int) (hc : numR s a 0 4096 = ((l.length : Int), pos 0, 0)) (hn : l.length ≤ 4096)
    (hi : ∀ (i : Nat) (x : S56), l[i]? = some x → ∀ (W : World), At W zr #[.string s, .int .i64 (pos i)] 89 → Calls Try.prog 37 #[.pointer (some ⟨zr, 0, none⟩)] W fun e w' => e = .returned (.agg #[.string x.f0, .int .u64 x.f1.f0, .int .u32 x.f1.f1, .int .u8 x.f1.f2, .int .u8 x.f2]) ∧ At w' zr #[.string s, .int .i64 (pos (i + 1))] 89 ∧ Chg (fun x => x = zr) W w')
    (hs : s.size ≤ 900000) (w : World) (hA : At w zr #[.string s, .int .i64 a] 89) :
    Calls Try.prog 36 #[.pointer (some ⟨zr, 0, none⟩), .func (.func 37) #[.pointer (some ⟨zr, 0, none⟩)] #[]] w fun e w' => ∃ v, e = .returned v ∧ Kd.R k56 56 w' w.heap.size (fun k => w.heap.size ≤ k) v l ∧ At w' zr #[.string s, .int .i64 (pos l.length)] 89 ∧ Chg (fun x => x = zr) w w' := by
  have HN0 := Lib.hid (rnum_is zr s a 0 4096 (l.length : Int) (pos 0) hc (by unfold maxLen; omega) w hA)
  have HI := Lib.hid hi
  have hzr := hA.lt
  have HZ := Lib.hid hzr
  clear hc hi hA hzr
  obtain ⟨n, hnn⟩ : ∃ n, n = l.length := ⟨_, rfl⟩
  rw [← hnn] at HN0 hn ⊢
  have HNN := Lib.hid hnn
  clear hnn
  go_enter Try.func36, Try.ntmps36
  go_wp2_with (go_at_call 29; (with_reducible refine HN0.out.mono ?_); rintro e w1 ⟨rfl, ha, hk⟩; have HA := Lib.hid ha; have HK := Lib.hid hk; clear ha hk HN0)
  go_loopw [5, 8] (fun v5 v8 w' => ∃ (i : Nat) (y : Int) (u : Value), i ≤ n ∧ v8 = .int .u64 y ∧ u = v5 ∧ Hid (y = (i : Int)) ∧ Hid (Kd.R k56 56 w' w.heap.size (fun k => w.heap.size ≤ k) u (l.take i)) ∧ Hid (At w' zr #[.string s, .int .i64 (pos i)] 89) ∧ Hid (Chg (fun x => x = zr) w w')) (fun v5 v8 _ => n - (intOf v8).toNat)
  case atStart => exact ⟨0, 0, _, Nat.zero_le _, rfl, rfl, Lib.hid rfl, Lib.hid (Kd.R_nil _ _ _ _ _), HA, HK⟩
  case round =>
    clear HA HK
    obtain ⟨i, y, u, hi, rfl, rfl, HY, HR, HA, HK⟩ := hrel
    by_cases hlt : i < n
    · have hil : i < l.length := by rw [← HNN.out]; exact hlt
      have vj : IntKind.u64.wrap (y + 1) = y + 1 := IntWalk.u64_in _ ⟨by have := HY.out; omega, by have := HY.out; omega⟩
      have hq1 : decide (y < (n : Int)) = true := decide_eq_true (by have := HY.out; omega)
      have HT := Lib.hid (List.take_succ_eq_append_getElem hil)
      have HLN := Lib.hid (show (l.take i).length ≤ 4096 from by rw [List.length_take]; omega)
      have hC := HI.out i l[i] (List.getElem?_eq_getElem hil)
      generalize l[i] = x at *
      have CP := Lib.hid (hC wr HA.out)
      clear hC hil
      go_wp2_with (first
        | (go_at_call 37; (with_reducible refine CP.out.mono ?_); rintro e W ⟨rfl, ha, hk⟩; have HA2 := Lib.hid ha; have HR2 := Lib.hid (R_zr HR.out hk HZ.out); have HK2 := Lib.hid (chg_then HK.out hk); clear ha hk HA HR HK CP)
        | ((with_reducible refine gate_dst (N := 14) rfl ?_); refine Kd.R_append k56 (w0 := W) w.heap.size (by rfl) (.tmp 10) (.tmp 13) 26 56 (.agg #[.string ⟨#[]⟩, .int .u64 0, .int .u32 0, .int .u8 0, .int .u8 0]) 40 rfl Try.underlying26 info_56 rfl (by decide) (by omega) u (l.take i) x [.string x.f0, .int .u64 x.f1.f0, .int .u32 x.f1.f1, .int .u8 x.f1.f2, .int .u8 x.f2] (fun k => w.heap.size ≤ k) (fun _ => False) rfl rfl ?aP (fun _ hk => hk.elim) ?aF ?aO ?aB ?aS ?aL ?_; (case aP => exact k56_mkM W _ _ x); (case aF => exact (fun k hk => Nat.le_trans HK2.out.size hk)); (case aO => exact HR2.out); (case aB => exact Below.refl _ _); (case aS => exact HK2.out.size); (case aL => have := HLN.out; omega); intro v1 w5 ho hb4 hg4 hat; have HR3 := Lib.hid ho; have HA3 := Lib.hid (at_belowB HA2.out hb4 HZ.out); have HK3 := Lib.hid (chg_belowB HK2.out hb4); clear ho hb4 hg4 hat HR2 HA2 HK2))
      exact ⟨⟨i + 1, y + 1, v1, by omega, rfl, rfl, Lib.hid (by have := HY.out; omega), Lib.hid (by rw [HT.out]; exact HR3.out), HA3, HK3⟩, by have := HY.out; simp [intOf]; omega⟩
    · have hie : i = n := by omega
      have hq2 : decide (y < (n : Int)) = false := decide_eq_false (by have := HY.out; omega)
      rw [show l.take i = l from by rw [hie, HNN.out]; exact List.take_length] at HR
      rw [hie] at HA
      clear hie hi hlt HY
      go_wp2_with (fail)
      go_ret
      exact ⟨_, rfl, HR.out, HA.out, HK.out⟩
theorem info_D : (Try.prog.info? 50).map (fun i => (i.zero, i.size, i.bytes)) = some (some (.int .u64 0), 1, 8) := by kernel_rfl
set_option maxRecDepth 100000 in
set_option maxHeartbeats 4000000 in
theorem listD_is (zr : Nat) (s : ByteArray) (a : Int) (l : List Int) (pos : Nat → Int) (hc : numR s a 0 4096 = ((l.length : Int), pos 0, 0)) (hn : l.length ≤ 4096)
    (hi : ∀ (i : Nat) (x : Int), l[i]? = some x → ∀ (W : World), At W zr #[.string s, .int .i64 (pos i)] 89 → Calls Try.prog 39 #[.pointer (some ⟨zr, 0, none⟩)] W fun e w' => e = .returned (.int .u64 (x)) ∧ At w' zr #[.string s, .int .i64 (pos (i + 1))] 89 ∧ Chg (fun x => x = zr) W w')
    (hs : s.size ≤ 900000) (w : World) (hA : At w zr #[.string s, .int .i64 a] 89) :
    Calls Try.prog 38 #[.pointer (some ⟨zr, 0, none⟩), .func (.func 39) #[.pointer (some ⟨zr, 0, none⟩)] #[]] w fun e w' => ∃ v, e = .returned v ∧ Kd.R (Kd.int .u64) 50 w' w.heap.size (fun k => w.heap.size ≤ k) v l ∧ At w' zr #[.string s, .int .i64 (pos l.length)] 89 ∧ Chg (fun x => x = zr) w w' := by
  have HN0 := Lib.hid (rnum_is zr s a 0 4096 (l.length : Int) (pos 0) hc (by unfold maxLen; omega) w hA)
  have HI := Lib.hid hi
  have hzr := hA.lt
  have HZ := Lib.hid hzr
  clear hc hi hA hzr
  obtain ⟨n, hnn⟩ : ∃ n, n = l.length := ⟨_, rfl⟩
  rw [← hnn] at HN0 hn ⊢
  have HNN := Lib.hid hnn
  clear hnn
  go_enter Try.func38, Try.ntmps38
  go_wp2_with (go_at_call 29; (with_reducible refine HN0.out.mono ?_); rintro e w1 ⟨rfl, ha, hk⟩; have HA := Lib.hid ha; have HK := Lib.hid hk; clear ha hk HN0)
  go_loopw [5, 8] (fun v5 v8 w' => ∃ (i : Nat) (y : Int) (u : Value), i ≤ n ∧ v8 = .int .u64 y ∧ u = v5 ∧ Hid (y = (i : Int)) ∧ Hid (Kd.R (Kd.int .u64) 50 w' w.heap.size (fun k => w.heap.size ≤ k) u (l.take i)) ∧ Hid (At w' zr #[.string s, .int .i64 (pos i)] 89) ∧ Hid (Chg (fun x => x = zr) w w')) (fun v5 v8 _ => n - (intOf v8).toNat)
  case atStart => exact ⟨0, 0, _, Nat.zero_le _, rfl, rfl, Lib.hid rfl, Lib.hid (Kd.R_nil _ _ _ _ _), HA, HK⟩
  case round =>
    clear HA HK
    obtain ⟨i, y, u, hi, rfl, rfl, HY, HR, HA, HK⟩ := hrel
    by_cases hlt : i < n
    · have hil : i < l.length := by rw [← HNN.out]; exact hlt
      have vj : IntKind.u64.wrap (y + 1) = y + 1 := IntWalk.u64_in _ ⟨by have := HY.out; omega, by have := HY.out; omega⟩
      have hq1 : decide (y < (n : Int)) = true := decide_eq_true (by have := HY.out; omega)
      have HT := Lib.hid (List.take_succ_eq_append_getElem hil)
      have HLN := Lib.hid (show (l.take i).length ≤ 4096 from by rw [List.length_take]; omega)
      have hC := HI.out i l[i] (List.getElem?_eq_getElem hil)
      generalize l[i] = x at *
      have CP := Lib.hid (hC wr HA.out)
      clear hC hil
      go_wp2_with (first
        | (go_at_call 39; (with_reducible refine CP.out.mono ?_); rintro e W ⟨rfl, ha, hk⟩; have HA2 := Lib.hid ha; have HR2 := Lib.hid (R_zr HR.out hk HZ.out); have HK2 := Lib.hid (chg_then HK.out hk); clear ha hk HA HR HK CP)
        | ((with_reducible refine gate_dst (N := 14) rfl ?_); refine Kd.R_append (Kd.int .u64) (w0 := W) w.heap.size (by rfl) (.tmp 10) (.tmp 13) 27 50 (.int .u64 0) 8 rfl Try.underlying27 info_D rfl (by decide) (by omega) u (l.take i) x [.int .u64 x] (fun k => w.heap.size ≤ k) (fun _ => False) rfl rfl ?aP (fun _ hk => hk.elim) ?aF ?aO ?aB ?aS ?aL ?_; (case aP => exact rfl); (case aF => exact (fun k hk => Nat.le_trans HK2.out.size hk)); (case aO => exact HR2.out); (case aB => exact Below.refl _ _); (case aS => exact HK2.out.size); (case aL => have := HLN.out; omega); intro v1 w5 ho hb4 hg4 hat; have HR3 := Lib.hid ho; have HA3 := Lib.hid (at_belowB HA2.out hb4 HZ.out); have HK3 := Lib.hid (chg_belowB HK2.out hb4); clear ho hb4 hg4 hat HR2 HA2 HK2))
      exact ⟨⟨i + 1, y + 1, v1, by omega, rfl, rfl, Lib.hid (by have := HY.out; omega), Lib.hid (by rw [HT.out]; exact HR3.out), HA3, HK3⟩, by have := HY.out; simp [intOf]; omega⟩
    · have hie : i = n := by omega
      have hq2 : decide (y < (n : Int)) = false := decide_eq_false (by have := HY.out; omega)
      rw [show l.take i = l from by rw [hie, HNN.out]; exact List.take_length] at HR
      rw [hie] at HA
      clear hie hi hlt HY
      go_wp2_with (fail)
      go_ret
      exact ⟨_, rfl, HR.out, HA.out, HK.out⟩
end Go.Proofs.Ytdjompbhlkgmbaa.Msg
end

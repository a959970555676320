/- The reader over bytes: the walks (own text; printed by wip/tools/gen_recread.py, a program of this session). -/
import Derived.Test.YtlohnhjfdmldnaaNumText
import Derived.Test.YtlohnhjfdmldnaaRecCmp
namespace Go.Proofs.Ytlohnhjfdmldnaa.Rec
open Go.RowKit Go.Proofs.Ytlohnhjfdmldnaa.Mem Go.Proofs.Ytlohnhjfdmldnaa
open Go.Proofs.Ytlohnhjfdmldnaa.Num (getS textS)
set_option linter.unusedVariables false
set_option linter.unusedSimpArgs false
/-- What number answers, and where the reader stands then: the number, the place, the error. -/
def rdN (s : ByteArray) (a e most : Int) : Int × Int × Int :=
  if ¬ e = 0 then (0, a, e) else
  if ¬ (getS s a).2.2 = 0 then (0, a, (getS s a).2.2) else
  if most < (getS s a).1 then (0, a, 3) else ((getS s a).1, (getS s a).2.1, 0)
def rdT (s : ByteArray) (a e most : Int) : ByteArray × Int × Int :=
  if ¬ e = 0 then (⟨#[]⟩, a, e) else
  if ¬ (textS s a most).2.2 = 0 then (⟨#[]⟩, a, (textS s a most).2.2) else
  ((textS s a most).1, (textS s a most).2.1, 0)
def rdr (s : ByteArray) (a e : Int) : Array Value := #[.string s, .int .i64 a, .int .i64 e]
theorem number_err (b : Nat) (s : ByteArray) (a er m : Int) (w : World) (h : At w b (rdr s a er) 67) (he : ¬ er = 0) :
    Calls Try.prog 44 #[.pointer (some ⟨b, 0, none⟩), .int .u64 m] w fun e w' => e = .returned (.int .u64 0) ∧ At w' b (rdr s a er) 67 ∧ Chg (fun x => x = b) w w' := by
  have c0 : (er != 0) = true := bne_iff_ne.2 he
  have HR := Lib.hid h
  obtain ⟨x0, x1, x2, -⟩ := at3 (show At w b #[.string s, .int .i64 a, .int .i64 er] 67 from h)
  clear h
  go_enter Try.func44, Try.ntmps44
  go_wp2_with (fail)
  go_ret
  exact ⟨rfl, HR.out, chg_refl _ _⟩
theorem text_err (b : Nat) (s : ByteArray) (a er m : Int) (w : World) (h : At w b (rdr s a er) 67) (he : ¬ er = 0) :
    Calls Try.prog 43 #[.pointer (some ⟨b, 0, none⟩), .int .i64 m] w fun e w' => e = .returned (.string ⟨#[]⟩) ∧ At w' b (rdr s a er) 67 ∧ Chg (fun x => x = b) w w' := by
  have c0 : (er != 0) = true := bne_iff_ne.2 he
  have HR := Lib.hid h
  obtain ⟨x0, x1, x2, -⟩ := at3 (show At w b #[.string s, .int .i64 a, .int .i64 er] 67 from h)
  clear h
  go_enter Try.func43, Try.ntmps43
  go_wp2_with (fail)
  go_ret
  exact ⟨rfl, HR.out, chg_refl _ _⟩
set_option maxHeartbeats 800000 in
theorem number_1 (b : Nat) (s : ByteArray) (a m : Int) (w : World) (h : At w b (rdr s a 0) 67) (hs : s.size ≤ maxLen) (n p er : Int) (hg : getS s a = (n, p, er)) (h1 : ¬ er = 0) :
    Calls Try.prog 44 #[.pointer (some ⟨b, 0, none⟩), .int .u64 m] w fun e w' => e = .returned (.int .u64 0) ∧ At w' b (rdr s (a) (er)) 67 ∧ Chg (fun x => x = b) w w' := by
  have c0 : (er != 0) = true := bne_iff_ne.2 h1
  clear h1
  have hgg := fun w => Num.get_any s a w hs
  rw [hg] at hgg
  simp only [Num.getV] at hgg
  have HG := Lib.hid hgg
  clear hg hgg
  have HR : Hid (At w b #[.string s, .int .i64 a, .int .i64 0] 67) := Lib.hid h
  have HC := Lib.hid (chg_refl (fun x => x = b) w)
  obtain ⟨x0, x1, x2, z0, z1, z2⟩ := at3 HR.out
  clear h
  go_enter Try.func44, Try.ntmps44
  go_wp2_with (fail)
  clear x0 x1 x2 z0 z1 z2
  replace HR := Lib.hid (at_drew HR.out)
  replace HC := Lib.hid (chg_drew HC.out)
  refine wp_region_held_drew (S := (fun W => W.cell? ⟨b, 0, none⟩ = some (.string s) ∧ W.cell? ⟨b, 1, none⟩ = some (.int .i64 a) ∧ W.cell? ⟨b, 2, none⟩ = some (.int .i64 0))) (by kernel_rfl) ?_ (fun hHeld => ?_)
  · (try dsimp only)
    exact ⟨(at3 HR.out).1, (at3 HR.out).2.1, (at3 HR.out).2.2.1⟩
  refine Draw.take_w (i := 0) (v := ?vv1) rfl (by kernel_rfl) (by kernel_rfl) (by kernel_rfl) (fun _ _ _ h => h) (by rfl) ?hy1 (by assumption) ?rest1
  case hy1 => ((intro w hSw); (try dsimp only at hSw); go_simp; (try with_reducible rfl))
  (try simp only [Act.put, List.setIfInBounds_toArray, List.set_cons_zero, List.set_cons_succ])
  refine Draw.take_w (i := 1) (v := ?vv2) rfl (by kernel_rfl) (by kernel_rfl) (by kernel_rfl) (fun _ _ _ h => h) (by rfl) ?hy2 (by assumption) ?rest2
  case hy2 => ((intro w hSw); (try dsimp only at hSw); go_simp; (try with_reducible rfl))
  (try simp only [Act.put, List.setIfInBounds_toArray, List.set_cons_zero, List.set_cons_succ])
  refine Draw.take_w (i := 2) (v := ?vv3) rfl (by kernel_rfl) (by kernel_rfl) (by kernel_rfl) (fun _ _ _ h => h) (by rfl) ?hy3 (by assumption) ?rest3
  case hy3 => ((intro w hSw); (try dsimp only at hSw); go_simp; (try with_reducible rfl))
  (try simp only [Act.put, List.setIfInBounds_toArray, List.set_cons_zero, List.set_cons_succ])
  refine Draw.take_w (i := 3) (v := ?vv4) rfl (by kernel_rfl) (by kernel_rfl) (by kernel_rfl) (fun _ _ _ h => h) (by rfl) ?hy4 (by assumption) ?rest4
  case hy4 => ((intro w hSw); (try dsimp only at hSw); go_simp; (try with_reducible rfl))
  (try simp only [Act.put, List.setIfInBounds_toArray, List.set_cons_zero, List.set_cons_succ])
  refine Draw.take_w (i := 4) (v := ?vv5) rfl (by kernel_rfl) (by kernel_rfl) (by kernel_rfl) (fun _ _ _ h => h) (by rfl) ?hy5 (by assumption) ?rest5
  case hy5 => ((intro w hSw); (try dsimp only at hSw); go_simp; (try with_reducible rfl))
  (try simp only [Act.put, List.setIfInBounds_toArray, List.set_cons_zero, List.set_cons_succ])
  refine Draw.take_w (i := 5) (v := ?vv6) rfl (by kernel_rfl) (by kernel_rfl) (by kernel_rfl) (fun _ _ _ h => h) (by rfl) ?hy6 (by assumption) ?rest6
  case hy6 => ((intro w hSw); (try dsimp only at hSw); go_simp; (try with_reducible rfl))
  (try simp only [Act.put, List.setIfInBounds_toArray, List.set_cons_zero, List.set_cons_succ])
  refine Draw.take_w (i := 6) (v := ?vv7) rfl (by kernel_rfl) (by kernel_rfl) (by kernel_rfl) (fun _ _ _ h => h) (by rfl) ?hy7 (by assumption) ?rest7
  case hy7 => ((intro w hSw); (try dsimp only at hSw); go_simp; (try with_reducible rfl))
  (try simp only [Act.put, List.setIfInBounds_toArray, List.set_cons_zero, List.set_cons_succ])
  refine Draw.take_w (i := 7) (v := ?vv8) rfl (by kernel_rfl) (by kernel_rfl) (by kernel_rfl) (fun _ _ _ h => h) (by rfl) ?hy8 (by assumption) ?rest8
  case hy8 => ((intro w hSw); (try dsimp only at hSw); go_simp; (try with_reducible rfl))
  (try simp only [Act.put, List.setIfInBounds_toArray, List.set_cons_zero, List.set_cons_succ])
  refine Draw.call_d (i := 8) rfl (by kernel_rfl) (by rfl) (fun K hK => ?_)
  go_simp
  refine (HG.out _).mono ?_
  rintro e w1 ⟨rfl, nd, hw⟩
  replace HR : Hid (At w1 b #[.string s, .int .i64 a, .int .i64 0] 67) := Lib.hid (by rw [hw]; exact at_drewN (n := nd) HR.out)
  replace HC : Hid (Chg (fun x => x = b) w w1) := Lib.hid (by rw [hw]; exact chg_drewN (n := nd) HC.out)
  clear hw
  refine hK.out _ _ ?_ (fun hHeld => ?_)
  · (try dsimp only)
    exact ⟨(at3 HR.out).1, (at3 HR.out).2.1, (at3 HR.out).2.2.1⟩
  clear hK K
  (try simp only [Act.put, List.setIfInBounds_toArray, List.set_cons_zero, List.set_cons_succ])
  refine Draw.take_w (i := 9) (v := ?vv9) rfl (by kernel_rfl) (by kernel_rfl) (by kernel_rfl) (fun _ _ _ h => h) (by rfl) ?hy9 (by assumption) ?rest9
  case hy9 => ((intro w hSw); (try dsimp only at hSw); go_simp; (try with_reducible rfl))
  (try simp only [Act.put, List.setIfInBounds_toArray, List.set_cons_zero, List.set_cons_succ])
  refine Draw.take_w (i := 10) (v := ?vv10) rfl (by kernel_rfl) (by kernel_rfl) (by kernel_rfl) (fun _ _ _ h => h) (by rfl) ?hy10 (by assumption) ?rest10
  case hy10 => ((intro w hSw); (try dsimp only at hSw); go_simp; (try with_reducible rfl))
  (try simp only [Act.put, List.setIfInBounds_toArray, List.set_cons_zero, List.set_cons_succ])
  refine Draw.take_w (i := 11) (v := ?vv11) rfl (by kernel_rfl) (by kernel_rfl) (by kernel_rfl) (fun _ _ _ h => h) (by rfl) ?hy11 (by assumption) ?rest11
  case hy11 => ((intro w hSw); (try dsimp only at hSw); go_simp; (try with_reducible rfl))
  (try simp only [Act.put, List.setIfInBounds_toArray, List.set_cons_zero, List.set_cons_succ])
  refine Draw.take_w (i := 12) (v := ?vv12) rfl (by kernel_rfl) (by kernel_rfl) (by kernel_rfl) (fun _ _ _ h => h) (by rfl) ?hy12 (by assumption) ?rest12
  case hy12 => ((intro w hSw); (try dsimp only at hSw); go_simp; (try with_reducible rfl))
  (try simp only [Act.put, List.setIfInBounds_toArray, List.set_cons_zero, List.set_cons_succ])
  refine Draw.take_w (i := 13) (v := ?vv13) rfl (by kernel_rfl) (by kernel_rfl) (by kernel_rfl) (fun _ _ _ h => h) (by rfl) ?hy13 (by assumption) ?rest13
  case hy13 => ((intro w hSw); (try dsimp only at hSw); go_simp; (try with_reducible rfl))
  (try simp only [Act.put, List.setIfInBounds_toArray, List.set_cons_zero, List.set_cons_succ])
  refine Draw.take_w (i := 14) (v := ?vv14) rfl (by kernel_rfl) (by kernel_rfl) (by kernel_rfl) (fun _ _ _ h => h) (by rfl) ?hy14 (by assumption) ?rest14
  case hy14 => ((intro w hSw); (try dsimp only at hSw); go_simp; (try with_reducible rfl))
  (try simp only [Act.put, List.setIfInBounds_toArray, List.set_cons_zero, List.set_cons_succ])
  refine Draw.take_w (i := 15) (v := ?vv15) rfl (by kernel_rfl) (by kernel_rfl) (by kernel_rfl) (fun _ _ _ h => h) (by rfl) ?hy15 (by assumption) ?rest15
  case hy15 => ((intro w hSw); (try dsimp only at hSw); go_simp; (try with_reducible rfl))
  (try simp only [Act.put, List.setIfInBounds_toArray, List.set_cons_zero, List.set_cons_succ])
  refine wpAnyH_done (by kernel_rfl) ?_ _
  obtain ⟨x0, x1, x2, z0, z1, z2⟩ := at3 HR.out
  go_wp2_with (fail)
  go_ret
  exact ⟨rfl, at_set' (i := 2) (v := .int .i64 (er)) HR.out rfl, chg_set HC.out rfl⟩
set_option maxHeartbeats 800000 in
theorem number_2 (b : Nat) (s : ByteArray) (a m : Int) (w : World) (h : At w b (rdr s a 0) 67) (hs : s.size ≤ maxLen) (n p er : Int) (hg : getS s a = (n, p, er)) (h1 : er = 0) (h2 : m < n) :
    Calls Try.prog 44 #[.pointer (some ⟨b, 0, none⟩), .int .u64 m] w fun e w' => e = .returned (.int .u64 0) ∧ At w' b (rdr s (a) (3)) 67 ∧ Chg (fun x => x = b) w w' := by
  have c0 : (er != 0) = false := by rw [h1]; rfl
  have c1 : decide (m < n) = true := decide_eq_true h2
  clear h1 h2
  have hgg := fun w => Num.get_any s a w hs
  rw [hg] at hgg
  simp only [Num.getV] at hgg
  have HG := Lib.hid hgg
  clear hg hgg
  have HR : Hid (At w b #[.string s, .int .i64 a, .int .i64 0] 67) := Lib.hid h
  have HC := Lib.hid (chg_refl (fun x => x = b) w)
  obtain ⟨x0, x1, x2, z0, z1, z2⟩ := at3 HR.out
  clear h
  go_enter Try.func44, Try.ntmps44
  go_wp2_with (fail)
  clear x0 x1 x2 z0 z1 z2
  replace HR := Lib.hid (at_drew HR.out)
  replace HC := Lib.hid (chg_drew HC.out)
  refine wp_region_held_drew (S := (fun W => W.cell? ⟨b, 0, none⟩ = some (.string s) ∧ W.cell? ⟨b, 1, none⟩ = some (.int .i64 a) ∧ W.cell? ⟨b, 2, none⟩ = some (.int .i64 0))) (by kernel_rfl) ?_ (fun hHeld => ?_)
  · (try dsimp only)
    exact ⟨(at3 HR.out).1, (at3 HR.out).2.1, (at3 HR.out).2.2.1⟩
  refine Draw.take_w (i := 0) (v := ?vv16) rfl (by kernel_rfl) (by kernel_rfl) (by kernel_rfl) (fun _ _ _ h => h) (by rfl) ?hy16 (by assumption) ?rest16
  case hy16 => ((intro w hSw); (try dsimp only at hSw); go_simp; (try with_reducible rfl))
  (try simp only [Act.put, List.setIfInBounds_toArray, List.set_cons_zero, List.set_cons_succ])
  refine Draw.take_w (i := 1) (v := ?vv17) rfl (by kernel_rfl) (by kernel_rfl) (by kernel_rfl) (fun _ _ _ h => h) (by rfl) ?hy17 (by assumption) ?rest17
  case hy17 => ((intro w hSw); (try dsimp only at hSw); go_simp; (try with_reducible rfl))
  (try simp only [Act.put, List.setIfInBounds_toArray, List.set_cons_zero, List.set_cons_succ])
  refine Draw.take_w (i := 2) (v := ?vv18) rfl (by kernel_rfl) (by kernel_rfl) (by kernel_rfl) (fun _ _ _ h => h) (by rfl) ?hy18 (by assumption) ?rest18
  case hy18 => ((intro w hSw); (try dsimp only at hSw); go_simp; (try with_reducible rfl))
  (try simp only [Act.put, List.setIfInBounds_toArray, List.set_cons_zero, List.set_cons_succ])
  refine Draw.take_w (i := 3) (v := ?vv19) rfl (by kernel_rfl) (by kernel_rfl) (by kernel_rfl) (fun _ _ _ h => h) (by rfl) ?hy19 (by assumption) ?rest19
  case hy19 => ((intro w hSw); (try dsimp only at hSw); go_simp; (try with_reducible rfl))
  (try simp only [Act.put, List.setIfInBounds_toArray, List.set_cons_zero, List.set_cons_succ])
  refine Draw.take_w (i := 4) (v := ?vv20) rfl (by kernel_rfl) (by kernel_rfl) (by kernel_rfl) (fun _ _ _ h => h) (by rfl) ?hy20 (by assumption) ?rest20
  case hy20 => ((intro w hSw); (try dsimp only at hSw); go_simp; (try with_reducible rfl))
  (try simp only [Act.put, List.setIfInBounds_toArray, List.set_cons_zero, List.set_cons_succ])
  refine Draw.take_w (i := 5) (v := ?vv21) rfl (by kernel_rfl) (by kernel_rfl) (by kernel_rfl) (fun _ _ _ h => h) (by rfl) ?hy21 (by assumption) ?rest21
  case hy21 => ((intro w hSw); (try dsimp only at hSw); go_simp; (try with_reducible rfl))
  (try simp only [Act.put, List.setIfInBounds_toArray, List.set_cons_zero, List.set_cons_succ])
  refine Draw.take_w (i := 6) (v := ?vv22) rfl (by kernel_rfl) (by kernel_rfl) (by kernel_rfl) (fun _ _ _ h => h) (by rfl) ?hy22 (by assumption) ?rest22
  case hy22 => ((intro w hSw); (try dsimp only at hSw); go_simp; (try with_reducible rfl))
  (try simp only [Act.put, List.setIfInBounds_toArray, List.set_cons_zero, List.set_cons_succ])
  refine Draw.take_w (i := 7) (v := ?vv23) rfl (by kernel_rfl) (by kernel_rfl) (by kernel_rfl) (fun _ _ _ h => h) (by rfl) ?hy23 (by assumption) ?rest23
  case hy23 => ((intro w hSw); (try dsimp only at hSw); go_simp; (try with_reducible rfl))
  (try simp only [Act.put, List.setIfInBounds_toArray, List.set_cons_zero, List.set_cons_succ])
  refine Draw.call_d (i := 8) rfl (by kernel_rfl) (by rfl) (fun K hK => ?_)
  go_simp
  refine (HG.out _).mono ?_
  rintro e w1 ⟨rfl, nd, hw⟩
  replace HR : Hid (At w1 b #[.string s, .int .i64 a, .int .i64 0] 67) := Lib.hid (by rw [hw]; exact at_drewN (n := nd) HR.out)
  replace HC : Hid (Chg (fun x => x = b) w w1) := Lib.hid (by rw [hw]; exact chg_drewN (n := nd) HC.out)
  clear hw
  refine hK.out _ _ ?_ (fun hHeld => ?_)
  · (try dsimp only)
    exact ⟨(at3 HR.out).1, (at3 HR.out).2.1, (at3 HR.out).2.2.1⟩
  clear hK K
  (try simp only [Act.put, List.setIfInBounds_toArray, List.set_cons_zero, List.set_cons_succ])
  refine Draw.take_w (i := 9) (v := ?vv24) rfl (by kernel_rfl) (by kernel_rfl) (by kernel_rfl) (fun _ _ _ h => h) (by rfl) ?hy24 (by assumption) ?rest24
  case hy24 => ((intro w hSw); (try dsimp only at hSw); go_simp; (try with_reducible rfl))
  (try simp only [Act.put, List.setIfInBounds_toArray, List.set_cons_zero, List.set_cons_succ])
  refine Draw.take_w (i := 10) (v := ?vv25) rfl (by kernel_rfl) (by kernel_rfl) (by kernel_rfl) (fun _ _ _ h => h) (by rfl) ?hy25 (by assumption) ?rest25
  case hy25 => ((intro w hSw); (try dsimp only at hSw); go_simp; (try with_reducible rfl))
  (try simp only [Act.put, List.setIfInBounds_toArray, List.set_cons_zero, List.set_cons_succ])
  refine Draw.take_w (i := 11) (v := ?vv26) rfl (by kernel_rfl) (by kernel_rfl) (by kernel_rfl) (fun _ _ _ h => h) (by rfl) ?hy26 (by assumption) ?rest26
  case hy26 => ((intro w hSw); (try dsimp only at hSw); go_simp; (try with_reducible rfl))
  (try simp only [Act.put, List.setIfInBounds_toArray, List.set_cons_zero, List.set_cons_succ])
  refine Draw.take_w (i := 12) (v := ?vv27) rfl (by kernel_rfl) (by kernel_rfl) (by kernel_rfl) (fun _ _ _ h => h) (by rfl) ?hy27 (by assumption) ?rest27
  case hy27 => ((intro w hSw); (try dsimp only at hSw); go_simp; (try with_reducible rfl))
  (try simp only [Act.put, List.setIfInBounds_toArray, List.set_cons_zero, List.set_cons_succ])
  refine Draw.take_w (i := 13) (v := ?vv28) rfl (by kernel_rfl) (by kernel_rfl) (by kernel_rfl) (fun _ _ _ h => h) (by rfl) ?hy28 (by assumption) ?rest28
  case hy28 => ((intro w hSw); (try dsimp only at hSw); go_simp; (try with_reducible rfl))
  (try simp only [Act.put, List.setIfInBounds_toArray, List.set_cons_zero, List.set_cons_succ])
  refine Draw.take_w (i := 14) (v := ?vv29) rfl (by kernel_rfl) (by kernel_rfl) (by kernel_rfl) (fun _ _ _ h => h) (by rfl) ?hy29 (by assumption) ?rest29
  case hy29 => ((intro w hSw); (try dsimp only at hSw); go_simp; (try with_reducible rfl))
  (try simp only [Act.put, List.setIfInBounds_toArray, List.set_cons_zero, List.set_cons_succ])
  refine Draw.take_w (i := 15) (v := ?vv30) rfl (by kernel_rfl) (by kernel_rfl) (by kernel_rfl) (fun _ _ _ h => h) (by rfl) ?hy30 (by assumption) ?rest30
  case hy30 => ((intro w hSw); (try dsimp only at hSw); go_simp; (try with_reducible rfl))
  (try simp only [Act.put, List.setIfInBounds_toArray, List.set_cons_zero, List.set_cons_succ])
  refine wpAnyH_done (by kernel_rfl) ?_ _
  obtain ⟨x0, x1, x2, z0, z1, z2⟩ := at3 HR.out
  go_wp2_with (fail)
  go_ret
  exact ⟨rfl, at_set' (i := 2) (v := .int .i64 (3)) HR.out rfl, chg_set HC.out rfl⟩
set_option maxHeartbeats 800000 in
theorem number_3 (b : Nat) (s : ByteArray) (a m : Int) (w : World) (h : At w b (rdr s a 0) 67) (hs : s.size ≤ maxLen) (n p er : Int) (hg : getS s a = (n, p, er)) (h1 : er = 0) (h2 : ¬ m < n) :
    Calls Try.prog 44 #[.pointer (some ⟨b, 0, none⟩), .int .u64 m] w fun e w' => e = .returned (.int .u64 n) ∧ At w' b (rdr s (p) (0)) 67 ∧ Chg (fun x => x = b) w w' := by
  have c0 : (er != 0) = false := by rw [h1]; rfl
  have c1 : decide (m < n) = false := decide_eq_false h2
  clear h1 h2
  have hgg := fun w => Num.get_any s a w hs
  rw [hg] at hgg
  simp only [Num.getV] at hgg
  have HG := Lib.hid hgg
  clear hg hgg
  have HR : Hid (At w b #[.string s, .int .i64 a, .int .i64 0] 67) := Lib.hid h
  have HC := Lib.hid (chg_refl (fun x => x = b) w)
  obtain ⟨x0, x1, x2, z0, z1, z2⟩ := at3 HR.out
  clear h
  go_enter Try.func44, Try.ntmps44
  go_wp2_with (fail)
  clear x0 x1 x2 z0 z1 z2
  replace HR := Lib.hid (at_drew HR.out)
  replace HC := Lib.hid (chg_drew HC.out)
  refine wp_region_held_drew (S := (fun W => W.cell? ⟨b, 0, none⟩ = some (.string s) ∧ W.cell? ⟨b, 1, none⟩ = some (.int .i64 a) ∧ W.cell? ⟨b, 2, none⟩ = some (.int .i64 0))) (by kernel_rfl) ?_ (fun hHeld => ?_)
  · (try dsimp only)
    exact ⟨(at3 HR.out).1, (at3 HR.out).2.1, (at3 HR.out).2.2.1⟩
  refine Draw.take_w (i := 0) (v := ?vv31) rfl (by kernel_rfl) (by kernel_rfl) (by kernel_rfl) (fun _ _ _ h => h) (by rfl) ?hy31 (by assumption) ?rest31
  case hy31 => ((intro w hSw); (try dsimp only at hSw); go_simp; (try with_reducible rfl))
  (try simp only [Act.put, List.setIfInBounds_toArray, List.set_cons_zero, List.set_cons_succ])
  refine Draw.take_w (i := 1) (v := ?vv32) rfl (by kernel_rfl) (by kernel_rfl) (by kernel_rfl) (fun _ _ _ h => h) (by rfl) ?hy32 (by assumption) ?rest32
  case hy32 => ((intro w hSw); (try dsimp only at hSw); go_simp; (try with_reducible rfl))
  (try simp only [Act.put, List.setIfInBounds_toArray, List.set_cons_zero, List.set_cons_succ])
  refine Draw.take_w (i := 2) (v := ?vv33) rfl (by kernel_rfl) (by kernel_rfl) (by kernel_rfl) (fun _ _ _ h => h) (by rfl) ?hy33 (by assumption) ?rest33
  case hy33 => ((intro w hSw); (try dsimp only at hSw); go_simp; (try with_reducible rfl))
  (try simp only [Act.put, List.setIfInBounds_toArray, List.set_cons_zero, List.set_cons_succ])
  refine Draw.take_w (i := 3) (v := ?vv34) rfl (by kernel_rfl) (by kernel_rfl) (by kernel_rfl) (fun _ _ _ h => h) (by rfl) ?hy34 (by assumption) ?rest34
  case hy34 => ((intro w hSw); (try dsimp only at hSw); go_simp; (try with_reducible rfl))
  (try simp only [Act.put, List.setIfInBounds_toArray, List.set_cons_zero, List.set_cons_succ])
  refine Draw.take_w (i := 4) (v := ?vv35) rfl (by kernel_rfl) (by kernel_rfl) (by kernel_rfl) (fun _ _ _ h => h) (by rfl) ?hy35 (by assumption) ?rest35
  case hy35 => ((intro w hSw); (try dsimp only at hSw); go_simp; (try with_reducible rfl))
  (try simp only [Act.put, List.setIfInBounds_toArray, List.set_cons_zero, List.set_cons_succ])
  refine Draw.take_w (i := 5) (v := ?vv36) rfl (by kernel_rfl) (by kernel_rfl) (by kernel_rfl) (fun _ _ _ h => h) (by rfl) ?hy36 (by assumption) ?rest36
  case hy36 => ((intro w hSw); (try dsimp only at hSw); go_simp; (try with_reducible rfl))
  (try simp only [Act.put, List.setIfInBounds_toArray, List.set_cons_zero, List.set_cons_succ])
  refine Draw.take_w (i := 6) (v := ?vv37) rfl (by kernel_rfl) (by kernel_rfl) (by kernel_rfl) (fun _ _ _ h => h) (by rfl) ?hy37 (by assumption) ?rest37
  case hy37 => ((intro w hSw); (try dsimp only at hSw); go_simp; (try with_reducible rfl))
  (try simp only [Act.put, List.setIfInBounds_toArray, List.set_cons_zero, List.set_cons_succ])
  refine Draw.take_w (i := 7) (v := ?vv38) rfl (by kernel_rfl) (by kernel_rfl) (by kernel_rfl) (fun _ _ _ h => h) (by rfl) ?hy38 (by assumption) ?rest38
  case hy38 => ((intro w hSw); (try dsimp only at hSw); go_simp; (try with_reducible rfl))
  (try simp only [Act.put, List.setIfInBounds_toArray, List.set_cons_zero, List.set_cons_succ])
  refine Draw.call_d (i := 8) rfl (by kernel_rfl) (by rfl) (fun K hK => ?_)
  go_simp
  refine (HG.out _).mono ?_
  rintro e w1 ⟨rfl, nd, hw⟩
  replace HR : Hid (At w1 b #[.string s, .int .i64 a, .int .i64 0] 67) := Lib.hid (by rw [hw]; exact at_drewN (n := nd) HR.out)
  replace HC : Hid (Chg (fun x => x = b) w w1) := Lib.hid (by rw [hw]; exact chg_drewN (n := nd) HC.out)
  clear hw
  refine hK.out _ _ ?_ (fun hHeld => ?_)
  · (try dsimp only)
    exact ⟨(at3 HR.out).1, (at3 HR.out).2.1, (at3 HR.out).2.2.1⟩
  clear hK K
  (try simp only [Act.put, List.setIfInBounds_toArray, List.set_cons_zero, List.set_cons_succ])
  refine Draw.take_w (i := 9) (v := ?vv39) rfl (by kernel_rfl) (by kernel_rfl) (by kernel_rfl) (fun _ _ _ h => h) (by rfl) ?hy39 (by assumption) ?rest39
  case hy39 => ((intro w hSw); (try dsimp only at hSw); go_simp; (try with_reducible rfl))
  (try simp only [Act.put, List.setIfInBounds_toArray, List.set_cons_zero, List.set_cons_succ])
  refine Draw.take_w (i := 10) (v := ?vv40) rfl (by kernel_rfl) (by kernel_rfl) (by kernel_rfl) (fun _ _ _ h => h) (by rfl) ?hy40 (by assumption) ?rest40
  case hy40 => ((intro w hSw); (try dsimp only at hSw); go_simp; (try with_reducible rfl))
  (try simp only [Act.put, List.setIfInBounds_toArray, List.set_cons_zero, List.set_cons_succ])
  refine Draw.take_w (i := 11) (v := ?vv41) rfl (by kernel_rfl) (by kernel_rfl) (by kernel_rfl) (fun _ _ _ h => h) (by rfl) ?hy41 (by assumption) ?rest41
  case hy41 => ((intro w hSw); (try dsimp only at hSw); go_simp; (try with_reducible rfl))
  (try simp only [Act.put, List.setIfInBounds_toArray, List.set_cons_zero, List.set_cons_succ])
  refine Draw.take_w (i := 12) (v := ?vv42) rfl (by kernel_rfl) (by kernel_rfl) (by kernel_rfl) (fun _ _ _ h => h) (by rfl) ?hy42 (by assumption) ?rest42
  case hy42 => ((intro w hSw); (try dsimp only at hSw); go_simp; (try with_reducible rfl))
  (try simp only [Act.put, List.setIfInBounds_toArray, List.set_cons_zero, List.set_cons_succ])
  refine Draw.take_w (i := 13) (v := ?vv43) rfl (by kernel_rfl) (by kernel_rfl) (by kernel_rfl) (fun _ _ _ h => h) (by rfl) ?hy43 (by assumption) ?rest43
  case hy43 => ((intro w hSw); (try dsimp only at hSw); go_simp; (try with_reducible rfl))
  (try simp only [Act.put, List.setIfInBounds_toArray, List.set_cons_zero, List.set_cons_succ])
  refine Draw.take_w (i := 14) (v := ?vv44) rfl (by kernel_rfl) (by kernel_rfl) (by kernel_rfl) (fun _ _ _ h => h) (by rfl) ?hy44 (by assumption) ?rest44
  case hy44 => ((intro w hSw); (try dsimp only at hSw); go_simp; (try with_reducible rfl))
  (try simp only [Act.put, List.setIfInBounds_toArray, List.set_cons_zero, List.set_cons_succ])
  refine Draw.take_w (i := 15) (v := ?vv45) rfl (by kernel_rfl) (by kernel_rfl) (by kernel_rfl) (fun _ _ _ h => h) (by rfl) ?hy45 (by assumption) ?rest45
  case hy45 => ((intro w hSw); (try dsimp only at hSw); go_simp; (try with_reducible rfl))
  (try simp only [Act.put, List.setIfInBounds_toArray, List.set_cons_zero, List.set_cons_succ])
  refine wpAnyH_done (by kernel_rfl) ?_ _
  obtain ⟨x0, x1, x2, z0, z1, z2⟩ := at3 HR.out
  go_wp2_with (fail)
  go_ret
  exact ⟨rfl, at_set' (i := 1) (v := .int .i64 (p)) HR.out rfl, chg_set HC.out rfl⟩
theorem number_any (b : Nat) (s : ByteArray) (a er m : Int) (w : World) (h : At w b (rdr s a er) 67) (hs : s.size ≤ maxLen) :
    Calls Try.prog 44 #[.pointer (some ⟨b, 0, none⟩), .int .u64 m] w fun e w' => e = .returned (.int .u64 (rdN s a er m).1) ∧ At w' b (rdr s (rdN s a er m).2.1 (rdN s a er m).2.2) 67 ∧ Chg (fun x => x = b) w w' := by
  unfold rdN
  by_cases h0 : er = 0
  · subst h0
    rw [if_neg (by simp)]
    obtain ⟨n, p, er, hg⟩ : ∃ n p er, getS s a = (n, p, er) := ⟨_, _, _, rfl⟩
    rw [hg]
    by_cases h1 : er = 0
    · rw [if_neg (by simpa using h1)]
      by_cases h2 : m < n
      · rw [if_pos h2]; exact number_2 b s a m w h hs n p er hg h1 h2
      · rw [if_neg h2]; exact number_3 b s a m w h hs n p er hg h1 h2
    · rw [if_pos h1]; exact number_1 b s a m w h hs n p er hg h1
  · rw [if_pos h0]; exact number_err b s a er m w h h0
set_option maxHeartbeats 800000 in
theorem text_1 (b : Nat) (s : ByteArray) (a m : Int) (w : World) (h : At w b (rdr s a 0) 67) (hs : s.size ≤ maxLen) (hm : m ≤ 9223372036854775807) (t : ByteArray) (p er : Int) (hg : textS s a m = (t, p, er)) (h1 : ¬ er = 0) :
    Calls Try.prog 43 #[.pointer (some ⟨b, 0, none⟩), .int .i64 m] w fun e w' => e = .returned (.string ⟨#[]⟩) ∧ At w' b (rdr s (a) (er)) 67 ∧ Chg (fun x => x = b) w w' := by
  have c0 : (er != 0) = true := bne_iff_ne.2 h1
  clear h1
  have hgg := fun w => Num.getText_any s a m w hs hm
  rw [hg] at hgg
  simp only [Num.textV] at hgg
  have HG := Lib.hid hgg
  clear hg hgg
  have HR : Hid (At w b #[.string s, .int .i64 a, .int .i64 0] 67) := Lib.hid h
  have HC := Lib.hid (chg_refl (fun x => x = b) w)
  obtain ⟨x0, x1, x2, z0, z1, z2⟩ := at3 HR.out
  clear h
  go_enter Try.func43, Try.ntmps43
  go_wp2_with (fail)
  clear x0 x1 x2 z0 z1 z2
  replace HR := Lib.hid (at_drew HR.out)
  replace HC := Lib.hid (chg_drew HC.out)
  refine wp_region_held_drew (S := (fun W => W.cell? ⟨b, 0, none⟩ = some (.string s) ∧ W.cell? ⟨b, 1, none⟩ = some (.int .i64 a) ∧ W.cell? ⟨b, 2, none⟩ = some (.int .i64 0))) (by kernel_rfl) ?_ (fun hHeld => ?_)
  · (try dsimp only)
    exact ⟨(at3 HR.out).1, (at3 HR.out).2.1, (at3 HR.out).2.2.1⟩
  refine Draw.take_w (i := 0) (v := ?vv46) rfl (by kernel_rfl) (by kernel_rfl) (by kernel_rfl) (fun _ _ _ h => h) (by rfl) ?hy46 (by assumption) ?rest46
  case hy46 => ((intro w hSw); (try dsimp only at hSw); go_simp; (try with_reducible rfl))
  (try simp only [Act.put, List.setIfInBounds_toArray, List.set_cons_zero, List.set_cons_succ])
  refine Draw.take_w (i := 1) (v := ?vv47) rfl (by kernel_rfl) (by kernel_rfl) (by kernel_rfl) (fun _ _ _ h => h) (by rfl) ?hy47 (by assumption) ?rest47
  case hy47 => ((intro w hSw); (try dsimp only at hSw); go_simp; (try with_reducible rfl))
  (try simp only [Act.put, List.setIfInBounds_toArray, List.set_cons_zero, List.set_cons_succ])
  refine Draw.take_w (i := 2) (v := ?vv48) rfl (by kernel_rfl) (by kernel_rfl) (by kernel_rfl) (fun _ _ _ h => h) (by rfl) ?hy48 (by assumption) ?rest48
  case hy48 => ((intro w hSw); (try dsimp only at hSw); go_simp; (try with_reducible rfl))
  (try simp only [Act.put, List.setIfInBounds_toArray, List.set_cons_zero, List.set_cons_succ])
  refine Draw.take_w (i := 3) (v := ?vv49) rfl (by kernel_rfl) (by kernel_rfl) (by kernel_rfl) (fun _ _ _ h => h) (by rfl) ?hy49 (by assumption) ?rest49
  case hy49 => ((intro w hSw); (try dsimp only at hSw); go_simp; (try with_reducible rfl))
  (try simp only [Act.put, List.setIfInBounds_toArray, List.set_cons_zero, List.set_cons_succ])
  refine Draw.take_w (i := 4) (v := ?vv50) rfl (by kernel_rfl) (by kernel_rfl) (by kernel_rfl) (fun _ _ _ h => h) (by rfl) ?hy50 (by assumption) ?rest50
  case hy50 => ((intro w hSw); (try dsimp only at hSw); go_simp; (try with_reducible rfl))
  (try simp only [Act.put, List.setIfInBounds_toArray, List.set_cons_zero, List.set_cons_succ])
  refine Draw.take_w (i := 5) (v := ?vv51) rfl (by kernel_rfl) (by kernel_rfl) (by kernel_rfl) (fun _ _ _ h => h) (by rfl) ?hy51 (by assumption) ?rest51
  case hy51 => ((intro w hSw); (try dsimp only at hSw); go_simp; (try with_reducible rfl))
  (try simp only [Act.put, List.setIfInBounds_toArray, List.set_cons_zero, List.set_cons_succ])
  refine Draw.take_w (i := 6) (v := ?vv52) rfl (by kernel_rfl) (by kernel_rfl) (by kernel_rfl) (fun _ _ _ h => h) (by rfl) ?hy52 (by assumption) ?rest52
  case hy52 => ((intro w hSw); (try dsimp only at hSw); go_simp; (try with_reducible rfl))
  (try simp only [Act.put, List.setIfInBounds_toArray, List.set_cons_zero, List.set_cons_succ])
  refine Draw.take_w (i := 7) (v := ?vv53) rfl (by kernel_rfl) (by kernel_rfl) (by kernel_rfl) (fun _ _ _ h => h) (by rfl) ?hy53 (by assumption) ?rest53
  case hy53 => ((intro w hSw); (try dsimp only at hSw); go_simp; (try with_reducible rfl))
  (try simp only [Act.put, List.setIfInBounds_toArray, List.set_cons_zero, List.set_cons_succ])
  refine Draw.take_w (i := 8) (v := ?vv54) rfl (by kernel_rfl) (by kernel_rfl) (by kernel_rfl) (fun _ _ _ h => h) (by rfl) ?hy54 (by assumption) ?rest54
  case hy54 => ((intro w hSw); (try dsimp only at hSw); go_simp; (try with_reducible rfl))
  (try simp only [Act.put, List.setIfInBounds_toArray, List.set_cons_zero, List.set_cons_succ])
  refine Draw.call_d (i := 9) rfl (by kernel_rfl) (by rfl) (fun K hK => ?_)
  go_simp
  refine (HG.out _).mono ?_
  rintro e w1 ⟨rfl, b1⟩
  replace HR := Lib.hid (at_below HR.out b1)
  replace HC := Lib.hid (chg_below HC.out b1)
  clear b1
  refine hK.out _ _ ?_ (fun hHeld => ?_)
  · (try dsimp only)
    exact ⟨(at3 HR.out).1, (at3 HR.out).2.1, (at3 HR.out).2.2.1⟩
  clear hK K
  (try simp only [Act.put, List.setIfInBounds_toArray, List.set_cons_zero, List.set_cons_succ])
  refine Draw.take_w (i := 10) (v := ?vv55) rfl (by kernel_rfl) (by kernel_rfl) (by kernel_rfl) (fun _ _ _ h => h) (by rfl) ?hy55 (by assumption) ?rest55
  case hy55 => ((intro w hSw); (try dsimp only at hSw); go_simp; (try with_reducible rfl))
  (try simp only [Act.put, List.setIfInBounds_toArray, List.set_cons_zero, List.set_cons_succ])
  refine Draw.take_w (i := 11) (v := ?vv56) rfl (by kernel_rfl) (by kernel_rfl) (by kernel_rfl) (fun _ _ _ h => h) (by rfl) ?hy56 (by assumption) ?rest56
  case hy56 => ((intro w hSw); (try dsimp only at hSw); go_simp; (try with_reducible rfl))
  (try simp only [Act.put, List.setIfInBounds_toArray, List.set_cons_zero, List.set_cons_succ])
  refine Draw.take_w (i := 12) (v := ?vv57) rfl (by kernel_rfl) (by kernel_rfl) (by kernel_rfl) (fun _ _ _ h => h) (by rfl) ?hy57 (by assumption) ?rest57
  case hy57 => ((intro w hSw); (try dsimp only at hSw); go_simp; (try with_reducible rfl))
  (try simp only [Act.put, List.setIfInBounds_toArray, List.set_cons_zero, List.set_cons_succ])
  refine Draw.take_w (i := 13) (v := ?vv58) rfl (by kernel_rfl) (by kernel_rfl) (by kernel_rfl) (fun _ _ _ h => h) (by rfl) ?hy58 (by assumption) ?rest58
  case hy58 => ((intro w hSw); (try dsimp only at hSw); go_simp; (try with_reducible rfl))
  (try simp only [Act.put, List.setIfInBounds_toArray, List.set_cons_zero, List.set_cons_succ])
  refine Draw.take_w (i := 14) (v := ?vv59) rfl (by kernel_rfl) (by kernel_rfl) (by kernel_rfl) (fun _ _ _ h => h) (by rfl) ?hy59 (by assumption) ?rest59
  case hy59 => ((intro w hSw); (try dsimp only at hSw); go_simp; (try with_reducible rfl))
  (try simp only [Act.put, List.setIfInBounds_toArray, List.set_cons_zero, List.set_cons_succ])
  refine Draw.take_w (i := 15) (v := ?vv60) rfl (by kernel_rfl) (by kernel_rfl) (by kernel_rfl) (fun _ _ _ h => h) (by rfl) ?hy60 (by assumption) ?rest60
  case hy60 => ((intro w hSw); (try dsimp only at hSw); go_simp; (try with_reducible rfl))
  (try simp only [Act.put, List.setIfInBounds_toArray, List.set_cons_zero, List.set_cons_succ])
  refine Draw.take_w (i := 16) (v := ?vv61) rfl (by kernel_rfl) (by kernel_rfl) (by kernel_rfl) (fun _ _ _ h => h) (by rfl) ?hy61 (by assumption) ?rest61
  case hy61 => ((intro w hSw); (try dsimp only at hSw); go_simp; (try with_reducible rfl))
  (try simp only [Act.put, List.setIfInBounds_toArray, List.set_cons_zero, List.set_cons_succ])
  refine wpAnyH_done (by kernel_rfl) ?_ _
  obtain ⟨x0, x1, x2, z0, z1, z2⟩ := at3 HR.out
  go_wp2_with (fail)
  go_ret
  exact ⟨rfl, at_set' (i := 2) (v := .int .i64 (er)) HR.out rfl, chg_set HC.out rfl⟩
set_option maxHeartbeats 800000 in
theorem text_2 (b : Nat) (s : ByteArray) (a m : Int) (w : World) (h : At w b (rdr s a 0) 67) (hs : s.size ≤ maxLen) (hm : m ≤ 9223372036854775807) (t : ByteArray) (p er : Int) (hg : textS s a m = (t, p, er)) (h1 : er = 0) :
    Calls Try.prog 43 #[.pointer (some ⟨b, 0, none⟩), .int .i64 m] w fun e w' => e = .returned (.string t) ∧ At w' b (rdr s (p) (0)) 67 ∧ Chg (fun x => x = b) w w' := by
  have c0 : (er != 0) = false := by rw [h1]; rfl
  clear h1
  have hgg := fun w => Num.getText_any s a m w hs hm
  rw [hg] at hgg
  simp only [Num.textV] at hgg
  have HG := Lib.hid hgg
  clear hg hgg
  have HR : Hid (At w b #[.string s, .int .i64 a, .int .i64 0] 67) := Lib.hid h
  have HC := Lib.hid (chg_refl (fun x => x = b) w)
  obtain ⟨x0, x1, x2, z0, z1, z2⟩ := at3 HR.out
  clear h
  go_enter Try.func43, Try.ntmps43
  go_wp2_with (fail)
  clear x0 x1 x2 z0 z1 z2
  replace HR := Lib.hid (at_drew HR.out)
  replace HC := Lib.hid (chg_drew HC.out)
  refine wp_region_held_drew (S := (fun W => W.cell? ⟨b, 0, none⟩ = some (.string s) ∧ W.cell? ⟨b, 1, none⟩ = some (.int .i64 a) ∧ W.cell? ⟨b, 2, none⟩ = some (.int .i64 0))) (by kernel_rfl) ?_ (fun hHeld => ?_)
  · (try dsimp only)
    exact ⟨(at3 HR.out).1, (at3 HR.out).2.1, (at3 HR.out).2.2.1⟩
  refine Draw.take_w (i := 0) (v := ?vv62) rfl (by kernel_rfl) (by kernel_rfl) (by kernel_rfl) (fun _ _ _ h => h) (by rfl) ?hy62 (by assumption) ?rest62
  case hy62 => ((intro w hSw); (try dsimp only at hSw); go_simp; (try with_reducible rfl))
  (try simp only [Act.put, List.setIfInBounds_toArray, List.set_cons_zero, List.set_cons_succ])
  refine Draw.take_w (i := 1) (v := ?vv63) rfl (by kernel_rfl) (by kernel_rfl) (by kernel_rfl) (fun _ _ _ h => h) (by rfl) ?hy63 (by assumption) ?rest63
  case hy63 => ((intro w hSw); (try dsimp only at hSw); go_simp; (try with_reducible rfl))
  (try simp only [Act.put, List.setIfInBounds_toArray, List.set_cons_zero, List.set_cons_succ])
  refine Draw.take_w (i := 2) (v := ?vv64) rfl (by kernel_rfl) (by kernel_rfl) (by kernel_rfl) (fun _ _ _ h => h) (by rfl) ?hy64 (by assumption) ?rest64
  case hy64 => ((intro w hSw); (try dsimp only at hSw); go_simp; (try with_reducible rfl))
  (try simp only [Act.put, List.setIfInBounds_toArray, List.set_cons_zero, List.set_cons_succ])
  refine Draw.take_w (i := 3) (v := ?vv65) rfl (by kernel_rfl) (by kernel_rfl) (by kernel_rfl) (fun _ _ _ h => h) (by rfl) ?hy65 (by assumption) ?rest65
  case hy65 => ((intro w hSw); (try dsimp only at hSw); go_simp; (try with_reducible rfl))
  (try simp only [Act.put, List.setIfInBounds_toArray, List.set_cons_zero, List.set_cons_succ])
  refine Draw.take_w (i := 4) (v := ?vv66) rfl (by kernel_rfl) (by kernel_rfl) (by kernel_rfl) (fun _ _ _ h => h) (by rfl) ?hy66 (by assumption) ?rest66
  case hy66 => ((intro w hSw); (try dsimp only at hSw); go_simp; (try with_reducible rfl))
  (try simp only [Act.put, List.setIfInBounds_toArray, List.set_cons_zero, List.set_cons_succ])
  refine Draw.take_w (i := 5) (v := ?vv67) rfl (by kernel_rfl) (by kernel_rfl) (by kernel_rfl) (fun _ _ _ h => h) (by rfl) ?hy67 (by assumption) ?rest67
  case hy67 => ((intro w hSw); (try dsimp only at hSw); go_simp; (try with_reducible rfl))
  (try simp only [Act.put, List.setIfInBounds_toArray, List.set_cons_zero, List.set_cons_succ])
  refine Draw.take_w (i := 6) (v := ?vv68) rfl (by kernel_rfl) (by kernel_rfl) (by kernel_rfl) (fun _ _ _ h => h) (by rfl) ?hy68 (by assumption) ?rest68
  case hy68 => ((intro w hSw); (try dsimp only at hSw); go_simp; (try with_reducible rfl))
  (try simp only [Act.put, List.setIfInBounds_toArray, List.set_cons_zero, List.set_cons_succ])
  refine Draw.take_w (i := 7) (v := ?vv69) rfl (by kernel_rfl) (by kernel_rfl) (by kernel_rfl) (fun _ _ _ h => h) (by rfl) ?hy69 (by assumption) ?rest69
  case hy69 => ((intro w hSw); (try dsimp only at hSw); go_simp; (try with_reducible rfl))
  (try simp only [Act.put, List.setIfInBounds_toArray, List.set_cons_zero, List.set_cons_succ])
  refine Draw.take_w (i := 8) (v := ?vv70) rfl (by kernel_rfl) (by kernel_rfl) (by kernel_rfl) (fun _ _ _ h => h) (by rfl) ?hy70 (by assumption) ?rest70
  case hy70 => ((intro w hSw); (try dsimp only at hSw); go_simp; (try with_reducible rfl))
  (try simp only [Act.put, List.setIfInBounds_toArray, List.set_cons_zero, List.set_cons_succ])
  refine Draw.call_d (i := 9) rfl (by kernel_rfl) (by rfl) (fun K hK => ?_)
  go_simp
  refine (HG.out _).mono ?_
  rintro e w1 ⟨rfl, b1⟩
  replace HR := Lib.hid (at_below HR.out b1)
  replace HC := Lib.hid (chg_below HC.out b1)
  clear b1
  refine hK.out _ _ ?_ (fun hHeld => ?_)
  · (try dsimp only)
    exact ⟨(at3 HR.out).1, (at3 HR.out).2.1, (at3 HR.out).2.2.1⟩
  clear hK K
  (try simp only [Act.put, List.setIfInBounds_toArray, List.set_cons_zero, List.set_cons_succ])
  refine Draw.take_w (i := 10) (v := ?vv71) rfl (by kernel_rfl) (by kernel_rfl) (by kernel_rfl) (fun _ _ _ h => h) (by rfl) ?hy71 (by assumption) ?rest71
  case hy71 => ((intro w hSw); (try dsimp only at hSw); go_simp; (try with_reducible rfl))
  (try simp only [Act.put, List.setIfInBounds_toArray, List.set_cons_zero, List.set_cons_succ])
  refine Draw.take_w (i := 11) (v := ?vv72) rfl (by kernel_rfl) (by kernel_rfl) (by kernel_rfl) (fun _ _ _ h => h) (by rfl) ?hy72 (by assumption) ?rest72
  case hy72 => ((intro w hSw); (try dsimp only at hSw); go_simp; (try with_reducible rfl))
  (try simp only [Act.put, List.setIfInBounds_toArray, List.set_cons_zero, List.set_cons_succ])
  refine Draw.take_w (i := 12) (v := ?vv73) rfl (by kernel_rfl) (by kernel_rfl) (by kernel_rfl) (fun _ _ _ h => h) (by rfl) ?hy73 (by assumption) ?rest73
  case hy73 => ((intro w hSw); (try dsimp only at hSw); go_simp; (try with_reducible rfl))
  (try simp only [Act.put, List.setIfInBounds_toArray, List.set_cons_zero, List.set_cons_succ])
  refine Draw.take_w (i := 13) (v := ?vv74) rfl (by kernel_rfl) (by kernel_rfl) (by kernel_rfl) (fun _ _ _ h => h) (by rfl) ?hy74 (by assumption) ?rest74
  case hy74 => ((intro w hSw); (try dsimp only at hSw); go_simp; (try with_reducible rfl))
  (try simp only [Act.put, List.setIfInBounds_toArray, List.set_cons_zero, List.set_cons_succ])
  refine Draw.take_w (i := 14) (v := ?vv75) rfl (by kernel_rfl) (by kernel_rfl) (by kernel_rfl) (fun _ _ _ h => h) (by rfl) ?hy75 (by assumption) ?rest75
  case hy75 => ((intro w hSw); (try dsimp only at hSw); go_simp; (try with_reducible rfl))
  (try simp only [Act.put, List.setIfInBounds_toArray, List.set_cons_zero, List.set_cons_succ])
  refine Draw.take_w (i := 15) (v := ?vv76) rfl (by kernel_rfl) (by kernel_rfl) (by kernel_rfl) (fun _ _ _ h => h) (by rfl) ?hy76 (by assumption) ?rest76
  case hy76 => ((intro w hSw); (try dsimp only at hSw); go_simp; (try with_reducible rfl))
  (try simp only [Act.put, List.setIfInBounds_toArray, List.set_cons_zero, List.set_cons_succ])
  refine Draw.take_w (i := 16) (v := ?vv77) rfl (by kernel_rfl) (by kernel_rfl) (by kernel_rfl) (fun _ _ _ h => h) (by rfl) ?hy77 (by assumption) ?rest77
  case hy77 => ((intro w hSw); (try dsimp only at hSw); go_simp; (try with_reducible rfl))
  (try simp only [Act.put, List.setIfInBounds_toArray, List.set_cons_zero, List.set_cons_succ])
  refine wpAnyH_done (by kernel_rfl) ?_ _
  obtain ⟨x0, x1, x2, z0, z1, z2⟩ := at3 HR.out
  go_wp2_with (fail)
  go_ret
  exact ⟨rfl, at_set' (i := 1) (v := .int .i64 (p)) HR.out rfl, chg_set HC.out rfl⟩
theorem text_rd (b : Nat) (s : ByteArray) (a er m : Int) (w : World) (h : At w b (rdr s a er) 67) (hs : s.size ≤ maxLen) (hm : m ≤ 9223372036854775807) :
    Calls Try.prog 43 #[.pointer (some ⟨b, 0, none⟩), .int .i64 m] w fun e w' => e = .returned (.string (rdT s a er m).1) ∧ At w' b (rdr s (rdT s a er m).2.1 (rdT s a er m).2.2) 67 ∧ Chg (fun x => x = b) w w' := by
  unfold rdT
  by_cases h0 : er = 0
  · subst h0
    rw [if_neg (by simp)]
    obtain ⟨t, p, er, hg⟩ : ∃ t p er, textS s a m = (t, p, er) := ⟨_, _, _, rfl⟩
    rw [hg]
    by_cases h1 : er = 0
    · rw [if_neg (by simpa using h1)]; exact text_2 b s a m w h hs hm t p er hg h1
    · rw [if_pos h1]; exact text_1 b s a m w h hs hm t p er hg h1
  · rw [if_pos h0]; exact text_err b s a er m w h h0
end Go.Proofs.Ytlohnhjfdmldnaa.Rec

/- What the row needs, laid together out of MsgRItem, RecRead, RecGet, NumPlain, RecBack (own texts and texts printed for this seat; wip/tools/group.py). -/
import Derived.Test.YtdjompbhlkgmbaaGB3
import Derived.Test.YtdjompbhlkgmbaaGB5
import Derived.Test.YtdjompbhlkgmbaaGB6
import Derived.Test.YtdjompbhlkgmbaaGB8
import Derived.Test.YtdjompbhlkgmbaaGB13
import Derived.Laws.Bits64b
import Derived.Deep.Cut
import Derived.Lib.Strings
section
/- The reader's stamp, news, seen and digest where all is right (own text; written by wip/tools/gen_msgitem.py). -/
namespace Go.Proofs.Ytdjompbhlkgmbaa.Msg
open Go.RowKit Go.Proofs.Ytdjompbhlkgmbaa.Mem Go.Proofs.YtdjompbhlkgmbaaW.PrintWords Go.Proofs.YtdjompbhlkgmbaaW.PrintLast Go.Proofs.YtdjompbhlkgmbaaW.PrintMore
set_option linter.unusedVariables false
set_option linter.unusedSimpArgs false
theorem rkey_is (zr : Nat) (s : ByteArray) (a : Int) (t : ByteArray) (nx : Int) (h : keyR s a = (t, nx, 0)) (hs : s.size ≤ 900000) (w : World) (hA : At w zr #[.string s, .int .i64 a] 89) :
    Calls Try.prog 33 #[.pointer (some ⟨zr, 0, none⟩)] w fun e w' => e = .returned (.string t) ∧ At w' zr #[.string s, .int .i64 nx] 89 ∧ Chg (fun x => x = zr) w w' := by
  have := rkey_good zr s a w hA hs (by rw [h])
  rw [h] at this
  exact this
theorem res76 (t : Array Value) (z : Nat) (w : World) (u0 u1 u2 : Value) (h2 : t.getD 2 undef = .pointer (some ⟨z, 0, none⟩)) (hz : At w z #[u0, u1, u2] 52) : (results Try.f76 t).run Try.prog w = .ok (.agg #[u0, u1, u2]) w := by
  have e0 : w.cell? ⟨z, 0, none⟩ = some u0 := hz.cell 0
  have e1 : w.cell? ⟨z, 1, none⟩ = some u1 := hz.cell 1
  have e2 : w.cell? ⟨z, 2, none⟩ = some u2 := hz.cell 2
  unfold results
  rw [show Try.f76.results = #[ResultVar.cell 2 52] from by kernel_rfl]
  rw [Array.getD_eq_getD_getElem?] at h2
  simp [List.mapM_toArray, h2, go_sem, *]
theorem res31 (t : Array Value) (z : Nat) (w : World) (u0 u1 u2 : Value) (h2 : t.getD 2 undef = .pointer (some ⟨z, 0, none⟩)) (hz : At w z #[u0, u1, u2] 72) : (results Try.f31 t).run Try.prog w = .ok (.agg #[u0, u1, u2]) w := by
  have e0 : w.cell? ⟨z, 0, none⟩ = some u0 := hz.cell 0
  have e1 : w.cell? ⟨z, 1, none⟩ = some u1 := hz.cell 1
  have e2 : w.cell? ⟨z, 2, none⟩ = some u2 := hz.cell 2
  unfold results
  rw [show Try.f31.results = #[ResultVar.cell 2 72] from by kernel_rfl]
  rw [Array.getD_eq_getD_getElem?] at h2
  simp [List.mapM_toArray, h2, go_sem, *]
theorem res37 (t : Array Value) (z : Nat) (w : World) (u0 u1 u2 u3 u4 : Value) (h2 : t.getD 2 undef = .pointer (some ⟨z, 0, none⟩)) (hz : At w z #[u0, u1, u2, u3, u4] 56) : (results Try.f37 t).run Try.prog w = .ok (.agg #[u0, u1, u2, u3, u4]) w := by
  have e0 : w.cell? ⟨z, 0, none⟩ = some u0 := hz.cell 0
  have e1 : w.cell? ⟨z, 1, none⟩ = some u1 := hz.cell 1
  have e2 : w.cell? ⟨z, 2, none⟩ = some u2 := hz.cell 2
  have e3 : w.cell? ⟨z, 3, none⟩ = some u3 := hz.cell 3
  have e4 : w.cell? ⟨z, 4, none⟩ = some u4 := hz.cell 4
  unfold results
  rw [show Try.f37.results = #[ResultVar.cell 2 56] from by kernel_rfl]
  rw [Array.getD_eq_getD_getElem?] at h2
  simp [List.mapM_toArray, h2, go_sem, *]
set_option maxRecDepth 100000 in
set_option maxHeartbeats 2000000 in
theorem rstamp_is (zr : Nat) (s : ByteArray) (a a1 a2 a3 x y z : Int) (h1 : numR s a 0 281474976710655 = (x, a1, 0)) (h2 : numR s a1 0 4294967295 = (y, a2, 0)) (h3 : numR s a2 0 63 = (z, a3, 0)) (hy : 0 ≤ y ∧ y ≤ 4294967295) (hz : 0 ≤ z ∧ z ≤ 63) (hs : s.size ≤ 900000) (w : World) (hA : At w zr #[.string s, .int .i64 a] 89) :
    Calls Try.prog 76 #[.pointer (some ⟨zr, 0, none⟩)] w fun e w' => e = .returned (.agg #[.int .u64 x, .int .u32 y, .int .u8 z]) ∧ At w' zr #[.string s, .int .i64 a3] 89 ∧ Chg (fun x => x = zr) w w' := by
  have H1 := Lib.hid h1
  have H2 := Lib.hid h2
  have H3 := Lib.hid h3
  have HSZ := Lib.hid (show s.size ≤ maxLen from by unfold maxLen; omega)
  have v2 : IntKind.u32.wrap y = y := IntWalk.u32_in _ hy
  have v3 : IntKind.u8.wrap z = z := IntWalk.u8_in _ ⟨by omega, by omega⟩
  have hlt := hA.lt
  have HA := Lib.hid hA
  clear h1 h2 h3 hs hA hy hz
  go_enter Try.func76, Try.ntmps76
  go_upto_region 1 with (fail)
  have AQ := Lib.hid (at_new w #[.int .u64 0, .int .u32 0, .int .u8 0] 52)
  have AR := Lib.hid (at_alloc (o := .cells #[.int .u64 0, .int .u32 0, .int .u8 0] 52) HA.out)
  have HK := Lib.hid (chg_alloc (o := .cells #[.int .u64 0, .int .u32 0, .int .u8 0] 52) (chg_refl (fun x => x = zr) w))
  have HN := Lib.hid (show w.heap.size ≠ zr from by omega)
  clear HA hlt
  generalize w.alloc (.cells #[.int .u64 0, .int .u32 0, .int .u8 0] 52) = w1 at *
  go_wp2_with (first
    | (go_at_call 29; (with_reducible refine (rnum_is zr s _ _ _ _ _ H1.out HSZ.out _ AR.out).mono ?_); rintro e w2 ⟨rfl, ha, hk⟩; have AR2 := Lib.hid ha; have AQ2 := Lib.hid (at_chg AQ.out hk HN.out); have HK2 := Lib.hid (chg_then HK.out hk); clear AR AQ HK; clear ha hk)
    | (go_at_call 29; (with_reducible refine (rnum_is zr s _ _ _ _ _ H2.out HSZ.out _ AR2.out).mono ?_); rintro e w3 ⟨rfl, ha, hk⟩; have AR3 := Lib.hid ha; have AQ3 := Lib.hid (at_chg AQ2.out hk HN.out); have HK3 := Lib.hid (chg_then HK2.out hk); clear AR2 AQ2 HK2; clear ha hk)
    | (go_at_call 29; (with_reducible refine (rnum_is zr s _ _ _ _ _ H3.out HSZ.out _ AR3.out).mono ?_); rintro e w4 ⟨rfl, ha, hk⟩; have AR4 := Lib.hid ha; have AQ4 := Lib.hid (at_chg AQ3.out hk HN.out); have HK4 := Lib.hid (chg_then HK3.out hk); clear AR3 AQ3 HK3; have e0 := AQ4.out.cell 0; simp only [List.getElem?_toArray, List.getElem?_cons_succ, List.getElem?_cons_zero] at e0; have f0 := AQ4.out.free 0; have e1 := AQ4.out.cell 1; simp only [List.getElem?_toArray, List.getElem?_cons_succ, List.getElem?_cons_zero] at e1; have f1 := AQ4.out.free 1; have e2 := AQ4.out.cell 2; simp only [List.getElem?_toArray, List.getElem?_cons_succ, List.getElem?_cons_zero] at e2; have f2 := AQ4.out.free 2; clear ha hk))
  exact ⟨rfl, _, res76 _ w.heap.size _ _ _ _ rfl (at_set3 AQ4.out), rfl, at_set3_ne AR4.out (fun e => HN.out e.symm), chg_set_new (chg_set_new (chg_set_new HK4.out (Nat.le_refl _)) (Nat.le_refl _)) (Nat.le_refl _)⟩
set_option maxRecDepth 100000 in
set_option maxHeartbeats 2000000 in
theorem rnews_is (zr : Nat) (s : ByteArray) (a a1 a2 a3 x y z : Int) (h1 : numR s a 0 63 = (x, a1, 0)) (h2 : numR s a1 1 4 = (y, a2, 0)) (h3 : numR s a2 0 4294967295 = (z, a3, 0)) (hx : 0 ≤ x ∧ x ≤ 63) (hy : 1 ≤ y ∧ y ≤ 4) (hz : 0 ≤ z ∧ z ≤ 4294967295) (hs : s.size ≤ 900000) (w : World) (hA : At w zr #[.string s, .int .i64 a] 89) :
    Calls Try.prog 31 #[.pointer (some ⟨zr, 0, none⟩)] w fun e w' => e = .returned (.agg #[.int .u8 x, .int .u8 y, .int .u32 z]) ∧ At w' zr #[.string s, .int .i64 a3] 89 ∧ Chg (fun x => x = zr) w w' := by
  have H1 := Lib.hid h1
  have H2 := Lib.hid h2
  have H3 := Lib.hid h3
  have HSZ := Lib.hid (show s.size ≤ maxLen from by unfold maxLen; omega)
  have v1 : IntKind.u8.wrap x = x := IntWalk.u8_in _ ⟨by omega, by omega⟩
  have v2 : IntKind.u8.wrap y = y := IntWalk.u8_in _ ⟨by omega, by omega⟩
  have v3 : IntKind.u32.wrap z = z := IntWalk.u32_in _ hz
  have hlt := hA.lt
  have HA := Lib.hid hA
  clear h1 h2 h3 hs hA hx hy hz
  go_enter Try.func31, Try.ntmps31
  go_upto_region 1 with (fail)
  have AQ := Lib.hid (at_new w #[.int .u8 0, .int .u8 0, .int .u32 0] 72)
  have AR := Lib.hid (at_alloc (o := .cells #[.int .u8 0, .int .u8 0, .int .u32 0] 72) HA.out)
  have HK := Lib.hid (chg_alloc (o := .cells #[.int .u8 0, .int .u8 0, .int .u32 0] 72) (chg_refl (fun x => x = zr) w))
  have HN := Lib.hid (show w.heap.size ≠ zr from by omega)
  clear HA hlt
  generalize w.alloc (.cells #[.int .u8 0, .int .u8 0, .int .u32 0] 72) = w1 at *
  go_upto_region 2 with (go_at_call 29; (with_reducible refine (rnum_is zr s _ _ _ _ _ H1.out HSZ.out _ AR.out).mono ?_); rintro e w2 ⟨rfl, ha, hk⟩; have AR2 := Lib.hid ha; have AQ2 := Lib.hid (at_chg AQ.out hk HN.out); have HK2 := Lib.hid (chg_then HK.out hk); clear AR AQ HK; clear ha hk)
  have HX := Lib.hid (show w2.heap.size ≠ zr ∧ w.heap.size < w2.heap.size from ⟨by have := AR2.out.lt; omega, AQ2.out.lt⟩)
  have AX3 := Lib.hid (at_new w2 #[.int .u8 x, .int .u8 0, .int .u32 0] 72)
  have AR3 := Lib.hid (at_alloc (o := .cells #[.int .u8 x, .int .u8 0, .int .u32 0] 72) AR2.out)
  have AQ3 := Lib.hid (at_alloc (o := .cells #[.int .u8 x, .int .u8 0, .int .u32 0] 72) AQ2.out)
  have HK3 := Lib.hid (chg_alloc (o := .cells #[.int .u8 x, .int .u8 0, .int .u32 0] 72) HK2.out)
  clear AR2 AQ2 HK2
  generalize w2.alloc (.cells #[.int .u8 x, .int .u8 0, .int .u32 0] 72) = w3 at *
  generalize w2.heap.size = zx at *
  go_upto_region 3 with (go_at_call 29; (with_reducible refine (rnum_is zr s _ _ _ _ _ H2.out HSZ.out _ AR3.out).mono ?_); rintro e w4 ⟨rfl, ha, hk⟩; have AR4 := Lib.hid ha; have AQ4 := Lib.hid (at_chg AQ3.out hk HN.out); have AX4 := Lib.hid (at_chg AX3.out hk HX.out.1); have HK4 := Lib.hid (chg_then HK3.out hk); clear AR3 AQ3 AX3 HK3; have ee : w4.cell? ⟨zx, 1, none⟩ = some (.int .u8 0) := AX4.out.cell 1; have ff : w4.frozen? ⟨zx, 1, none⟩ = false := AX4.out.free 1; clear ha hk)
  have AX5 := Lib.hid (show At (w4.setCell ⟨zx, 1, none⟩ (.int .u8 y)) zx #[.int .u8 x, .int .u8 y, .int .u32 0] 72 from at_set' AX4.out rfl)
  have AR5 := Lib.hid (at_set_ne (b' := zx) (i := 1) (v := .int .u8 y) AR4.out (fun e => HX.out.1 e.symm))
  have AQ5 := Lib.hid (at_set_ne (b' := zx) (i := 1) (v := .int .u8 y) AQ4.out (by have := HX.out; omega))
  have HK5 := Lib.hid (chg_set_new (b := zx) (i := 1) (v := .int .u8 y) HK4.out (by have := HX.out; omega))
  clear AX4 AR4 AQ4 HK4 ee ff
  generalize w4.setCell ⟨zx, 1, none⟩ (.int .u8 y) = w5 at *
  go_upto_region 4 with (go_at_call 29; (with_reducible refine (rnum_is zr s _ _ _ _ _ H3.out HSZ.out _ AR5.out).mono ?_); rintro e w6 ⟨rfl, ha, hk⟩; have AR6 := Lib.hid ha; have AQ6 := Lib.hid (at_chg AQ5.out hk HN.out); have AX6 := Lib.hid (at_chg AX5.out hk HX.out.1); have HK6 := Lib.hid (chg_then HK5.out hk); clear AR5 AQ5 AX5 HK5; have ee : w6.cell? ⟨zx, 2, none⟩ = some (.int .u32 0) := AX6.out.cell 2; have ff : w6.frozen? ⟨zx, 2, none⟩ = false := AX6.out.free 2; clear ha hk)
  have AX7 := Lib.hid (show At (w6.setCell ⟨zx, 2, none⟩ (.int .u32 z)) zx #[.int .u8 x, .int .u8 y, .int .u32 z] 72 from at_set' AX6.out rfl)
  have AR7 := Lib.hid (at_set_ne (b' := zx) (i := 2) (v := .int .u32 z) AR6.out (fun e => HX.out.1 e.symm))
  have AQ7 := Lib.hid (at_set_ne (b' := zx) (i := 2) (v := .int .u32 z) AQ6.out (by have := HX.out; omega))
  have HK7 := Lib.hid (chg_set_new (b := zx) (i := 2) (v := .int .u32 z) HK6.out (by have := HX.out; omega))
  clear AX6 AR6 AQ6 HK6 ee ff
  generalize w6.setCell ⟨zx, 2, none⟩ (.int .u32 z) = w7 at *
  have e0 : w7.cell? ⟨zx, 0, none⟩ = some (.int .u8 x) := AX7.out.cell 0
  have e1 : w7.cell? ⟨zx, 1, none⟩ = some (.int .u8 y) := AX7.out.cell 1
  have e2 : w7.cell? ⟨zx, 2, none⟩ = some (.int .u32 z) := AX7.out.cell 2
  have g0 : w7.cell? ⟨w.heap.size, 0, none⟩ = some (.int .u8 0) := AQ7.out.cell 0
  have f0 : w7.frozen? ⟨w.heap.size, 0, none⟩ = false := AQ7.out.free 0
  have g1 : w7.cell? ⟨w.heap.size, 1, none⟩ = some (.int .u8 0) := AQ7.out.cell 1
  have f1 : w7.frozen? ⟨w.heap.size, 1, none⟩ = false := AQ7.out.free 1
  have g2 : w7.cell? ⟨w.heap.size, 2, none⟩ = some (.int .u32 0) := AQ7.out.cell 2
  have f2 : w7.frozen? ⟨w.heap.size, 2, none⟩ = false := AQ7.out.free 2
  apply wp_region
  show wpOps _ _ _ [0, 1] _ _
  refine step_ (i := 0) rfl ?_
  refine value_ (N := some 18) (w1 := ?_) (v := ?_) (by rfl) rfl ?_ ?_
  rotate_left 2
  · go_simp
    constructor
    · rfl
    · rfl
  simp only [Act.put, List.setIfInBounds_toArray, List.set_cons_zero, List.set_cons_succ]
  refine step_ (i := 1) rfl ?_
  refine skip_ (w1 := ?_) (by rfl) rfl ?_ ?_
  rotate_left
  · go_simp
    rfl
  rw [wpOps]
  have AQ9 := Lib.hid (show At ((((w7.setCell ⟨w.heap.size, 0, none⟩ (.int .u8 x)).setCell ⟨w.heap.size, 1, none⟩ (.int .u8 y)).setCell ⟨w.heap.size, 2, none⟩ (.int .u32 z))) w.heap.size #[.int .u8 x, .int .u8 y, .int .u32 z] 72 from at_set3 AQ7.out)
  have AR9 := Lib.hid (show At ((((w7.setCell ⟨w.heap.size, 0, none⟩ (.int .u8 x)).setCell ⟨w.heap.size, 1, none⟩ (.int .u8 y)).setCell ⟨w.heap.size, 2, none⟩ (.int .u32 z))) zr #[.string s, .int .i64 a3] 89 from at_set3_ne AR7.out (fun e => HN.out e.symm))
  have HK9 := Lib.hid (show Chg (fun x => x = zr) w ((((w7.setCell ⟨w.heap.size, 0, none⟩ (.int .u8 x)).setCell ⟨w.heap.size, 1, none⟩ (.int .u8 y)).setCell ⟨w.heap.size, 2, none⟩ (.int .u32 z))) from chg_set_new (chg_set_new (chg_set_new (HK7.out) (Nat.le_refl _)) (Nat.le_refl _)) (Nat.le_refl _))
  clear AQ7 AR7 HK7 AX7 e0 g0 f0 e1 g1 f1 e2 g2 f2
  generalize (((w7.setCell ⟨w.heap.size, 0, none⟩ (.int .u8 x)).setCell ⟨w.heap.size, 1, none⟩ (.int .u8 y)).setCell ⟨w.heap.size, 2, none⟩ (.int .u32 z)) = w9 at *
  go_wp2_with (fail)
  exact ⟨rfl, _, res31 _ w.heap.size _ _ _ _ rfl AQ9.out, rfl, AR9.out, HK9.out⟩
set_option maxRecDepth 100000 in
set_option maxHeartbeats 2000000 in
theorem rseen_is (zr : Nat) (s : ByteArray) (t : ByteArray) (a a0 a1 a2 a3 a4 x y z k : Int) (h0 : keyR s a = (t, a0, 0)) (h1 : numR s a0 0 281474976710655 = (x, a1, 0)) (h2 : numR s a1 0 4294967295 = (y, a2, 0)) (h3 : numR s a2 0 63 = (z, a3, 0)) (h4 : numR s a3 1 3 = (k, a4, 0)) (hy : 0 ≤ y ∧ y ≤ 4294967295) (hz : 0 ≤ z ∧ z ≤ 63) (hk9 : 1 ≤ k ∧ k ≤ 3) (hs : s.size ≤ 900000) (w : World) (hA : At w zr #[.string s, .int .i64 a] 89) :
    Calls Try.prog 37 #[.pointer (some ⟨zr, 0, none⟩)] w fun e w' => e = .returned (.agg #[.string t, .int .u64 x, .int .u32 y, .int .u8 z, .int .u8 k]) ∧ At w' zr #[.string s, .int .i64 a4] 89 ∧ Chg (fun x => x = zr) w w' := by
  have H0 := Lib.hid (fun (W : World) (h : At W zr #[.string s, .int .i64 a] 89) => rkey_is zr s a t a0 h0 hs W h)
  have H1 := Lib.hid (fun (W : World) (h : At W zr #[.string s, .int .i64 a0] 89) => rstamp_is zr s a0 a1 a2 a3 x y z h1 h2 h3 hy hz hs W h)
  have H4 := Lib.hid h4
  have HSZ := Lib.hid (show s.size ≤ maxLen from by unfold maxLen; omega)
  have v1 : IntKind.u8.wrap k = k := IntWalk.u8_in _ ⟨by omega, by omega⟩
  have hlt := hA.lt
  have HA := Lib.hid hA
  clear h0 h1 h2 h3 h4 hs hA hy hz hk9
  go_enter Try.func37, Try.ntmps37
  go_upto_region 1 with (fail)
  have AQ := Lib.hid (at_new w #[.string ⟨#[]⟩, .int .u64 0, .int .u32 0, .int .u8 0, .int .u8 0] 56)
  have AR := Lib.hid (at_alloc (o := .cells #[.string ⟨#[]⟩, .int .u64 0, .int .u32 0, .int .u8 0, .int .u8 0] 56) HA.out)
  have HK := Lib.hid (chg_alloc (o := .cells #[.string ⟨#[]⟩, .int .u64 0, .int .u32 0, .int .u8 0, .int .u8 0] 56) (chg_refl (fun x => x = zr) w))
  have HN := Lib.hid (show w.heap.size ≠ zr from by omega)
  clear HA hlt
  generalize w.alloc (.cells #[.string ⟨#[]⟩, .int .u64 0, .int .u32 0, .int .u8 0, .int .u8 0] 56) = w1 at *
  go_upto_region 2 with (go_at_call 33; (with_reducible refine (H0.out _ AR.out).mono ?_); rintro e w2 ⟨rfl, ha, hk⟩; have AR2 := Lib.hid ha; have AQ2 := Lib.hid (at_chg AQ.out hk HN.out); have HK2 := Lib.hid (chg_then HK.out hk); clear AR AQ HK ha hk)
  have HX := Lib.hid (show w2.heap.size ≠ zr ∧ w.heap.size < w2.heap.size from ⟨by have := AR2.out.lt; omega, AQ2.out.lt⟩)
  have AX3 := Lib.hid (at_new w2 #[.string t, .int .u64 0, .int .u32 0, .int .u8 0, .int .u8 0] 56)
  have AR3 := Lib.hid (at_alloc (o := .cells #[.string t, .int .u64 0, .int .u32 0, .int .u8 0, .int .u8 0] 56) AR2.out)
  have AQ3 := Lib.hid (at_alloc (o := .cells #[.string t, .int .u64 0, .int .u32 0, .int .u8 0, .int .u8 0] 56) AQ2.out)
  have HK3 := Lib.hid (chg_alloc (o := .cells #[.string t, .int .u64 0, .int .u32 0, .int .u8 0, .int .u8 0] 56) HK2.out)
  clear AR2 AQ2 HK2
  generalize w2.alloc (.cells #[.string t, .int .u64 0, .int .u32 0, .int .u8 0, .int .u8 0] 56) = w3 at *
  generalize w2.heap.size = zx at *
  go_upto_region 3 with (go_at_call 76; (with_reducible refine (H1.out _ AR3.out).mono ?_); rintro e w4 ⟨rfl, ha, hk⟩; have AR4 := Lib.hid ha; have AQ4 := Lib.hid (at_chg AQ3.out hk HN.out); have AX4 := Lib.hid (at_chg AX3.out hk HX.out.1); have HK4 := Lib.hid (chg_then HK3.out hk); clear AR3 AQ3 AX3 HK3 ha hk; have ee1 : w4.cell? ⟨zx, 1, none⟩ = some (.int .u64 0) := AX4.out.cell 1; have ff1 : w4.frozen? ⟨zx, 1, none⟩ = false := AX4.out.free 1; have ee2 : w4.cell? ⟨zx, 2, none⟩ = some (.int .u32 0) := AX4.out.cell 2; have ff2 : w4.frozen? ⟨zx, 2, none⟩ = false := AX4.out.free 2; have ee3 : w4.cell? ⟨zx, 3, none⟩ = some (.int .u8 0) := AX4.out.cell 3; have ff3 : w4.frozen? ⟨zx, 3, none⟩ = false := AX4.out.free 3)
  have AX5 := Lib.hid (show At (((w4.setCell ⟨zx, 1, none⟩ (.int .u64 x)).setCell ⟨zx, 2, none⟩ (.int .u32 y)).setCell ⟨zx, 3, none⟩ (.int .u8 z)) zx #[.string t, .int .u64 x, .int .u32 y, .int .u8 z, .int .u8 0] 56 from at_set' (at_set' (at_set' AX4.out rfl) rfl) rfl)
  have AR5 := Lib.hid (show At (((w4.setCell ⟨zx, 1, none⟩ (.int .u64 x)).setCell ⟨zx, 2, none⟩ (.int .u32 y)).setCell ⟨zx, 3, none⟩ (.int .u8 z)) zr #[.string s, .int .i64 a3] 89 from at_set_ne (at_set_ne (at_set_ne AR4.out (fun e => HX.out.1 e.symm)) (fun e => HX.out.1 e.symm)) (fun e => HX.out.1 e.symm))
  have AQ5 := Lib.hid (show At (((w4.setCell ⟨zx, 1, none⟩ (.int .u64 x)).setCell ⟨zx, 2, none⟩ (.int .u32 y)).setCell ⟨zx, 3, none⟩ (.int .u8 z)) w.heap.size #[.string ⟨#[]⟩, .int .u64 0, .int .u32 0, .int .u8 0, .int .u8 0] 56 from at_set_ne (at_set_ne (at_set_ne AQ4.out (by have := HX.out; omega)) (by have := HX.out; omega)) (by have := HX.out; omega))
  have HK5 := Lib.hid (show Chg (fun x => x = zr) w (((w4.setCell ⟨zx, 1, none⟩ (.int .u64 x)).setCell ⟨zx, 2, none⟩ (.int .u32 y)).setCell ⟨zx, 3, none⟩ (.int .u8 z)) from chg_set_new (chg_set_new (chg_set_new HK4.out (by have := HX.out; omega)) (by have := HX.out; omega)) (by have := HX.out; omega))
  clear AX4 AR4 AQ4 HK4 ee1 ff1 ee2 ff2 ee3 ff3
  generalize (((w4.setCell ⟨zx, 1, none⟩ (.int .u64 x)).setCell ⟨zx, 2, none⟩ (.int .u32 y)).setCell ⟨zx, 3, none⟩ (.int .u8 z)) = w5 at *
  go_upto_region 4 with (go_at_call 29; (with_reducible refine (rnum_is zr s _ _ _ _ _ H4.out HSZ.out _ AR5.out).mono ?_); rintro e w6 ⟨rfl, ha, hk⟩; have AR6 := Lib.hid ha; have AQ6 := Lib.hid (at_chg AQ5.out hk HN.out); have AX6 := Lib.hid (at_chg AX5.out hk HX.out.1); have HK6 := Lib.hid (chg_then HK5.out hk); clear AR5 AQ5 AX5 HK5; have ee : w6.cell? ⟨zx, 4, none⟩ = some (.int .u8 0) := AX6.out.cell 4; have ff : w6.frozen? ⟨zx, 4, none⟩ = false := AX6.out.free 4; clear ha hk)
  have AX7 := Lib.hid (show At (w6.setCell ⟨zx, 4, none⟩ (.int .u8 k)) zx #[.string t, .int .u64 x, .int .u32 y, .int .u8 z, .int .u8 k] 56 from at_set' AX6.out rfl)
  have AR7 := Lib.hid (at_set_ne (b' := zx) (i := 4) (v := .int .u8 k) AR6.out (fun e => HX.out.1 e.symm))
  have AQ7 := Lib.hid (at_set_ne (b' := zx) (i := 4) (v := .int .u8 k) AQ6.out (by have := HX.out; omega))
  have HK7 := Lib.hid (chg_set_new (b := zx) (i := 4) (v := .int .u8 k) HK6.out (by have := HX.out; omega))
  clear AX6 AR6 AQ6 HK6 ee ff
  generalize w6.setCell ⟨zx, 4, none⟩ (.int .u8 k) = w7 at *
  have e0 : w7.cell? ⟨zx, 0, none⟩ = some (.string t) := AX7.out.cell 0
  have e1 : w7.cell? ⟨zx, 1, none⟩ = some (.int .u64 x) := AX7.out.cell 1
  have e2 : w7.cell? ⟨zx, 2, none⟩ = some (.int .u32 y) := AX7.out.cell 2
  have e3 : w7.cell? ⟨zx, 3, none⟩ = some (.int .u8 z) := AX7.out.cell 3
  have e4 : w7.cell? ⟨zx, 4, none⟩ = some (.int .u8 k) := AX7.out.cell 4
  have g0 : w7.cell? ⟨w.heap.size, 0, none⟩ = some (.string ⟨#[]⟩) := AQ7.out.cell 0
  have f0 : w7.frozen? ⟨w.heap.size, 0, none⟩ = false := AQ7.out.free 0
  have g1 : w7.cell? ⟨w.heap.size, 1, none⟩ = some (.int .u64 0) := AQ7.out.cell 1
  have f1 : w7.frozen? ⟨w.heap.size, 1, none⟩ = false := AQ7.out.free 1
  have g2 : w7.cell? ⟨w.heap.size, 2, none⟩ = some (.int .u32 0) := AQ7.out.cell 2
  have f2 : w7.frozen? ⟨w.heap.size, 2, none⟩ = false := AQ7.out.free 2
  have g3 : w7.cell? ⟨w.heap.size, 3, none⟩ = some (.int .u8 0) := AQ7.out.cell 3
  have f3 : w7.frozen? ⟨w.heap.size, 3, none⟩ = false := AQ7.out.free 3
  have g4 : w7.cell? ⟨w.heap.size, 4, none⟩ = some (.int .u8 0) := AQ7.out.cell 4
  have f4 : w7.frozen? ⟨w.heap.size, 4, none⟩ = false := AQ7.out.free 4
  apply wp_region
  show wpOps _ _ _ [0, 1] _ _
  refine step_ (i := 0) rfl ?_
  refine value_ (N := some 14) (w1 := ?_) (v := ?_) (by rfl) rfl ?_ ?_
  rotate_left 2
  · go_simp
    constructor
    · rfl
    · rfl
  simp only [Act.put, List.setIfInBounds_toArray, List.set_cons_zero, List.set_cons_succ]
  refine step_ (i := 1) rfl ?_
  refine skip_ (w1 := ?_) (by rfl) rfl ?_ ?_
  rotate_left
  · go_simp
    rfl
  rw [wpOps]
  have AQ9 := Lib.hid (show At ((((((w7.setCell ⟨w.heap.size, 0, none⟩ (.string t)).setCell ⟨w.heap.size, 1, none⟩ (.int .u64 x)).setCell ⟨w.heap.size, 2, none⟩ (.int .u32 y)).setCell ⟨w.heap.size, 3, none⟩ (.int .u8 z)).setCell ⟨w.heap.size, 4, none⟩ (.int .u8 k))) w.heap.size #[.string t, .int .u64 x, .int .u32 y, .int .u8 z, .int .u8 k] 56 from at_set5 AQ7.out)
  have AR9 := Lib.hid (show At ((((((w7.setCell ⟨w.heap.size, 0, none⟩ (.string t)).setCell ⟨w.heap.size, 1, none⟩ (.int .u64 x)).setCell ⟨w.heap.size, 2, none⟩ (.int .u32 y)).setCell ⟨w.heap.size, 3, none⟩ (.int .u8 z)).setCell ⟨w.heap.size, 4, none⟩ (.int .u8 k))) zr #[.string s, .int .i64 a4] 89 from at_set5_ne AR7.out (fun e => HN.out e.symm))
  have HK9 := Lib.hid (show Chg (fun x => x = zr) w ((((((w7.setCell ⟨w.heap.size, 0, none⟩ (.string t)).setCell ⟨w.heap.size, 1, none⟩ (.int .u64 x)).setCell ⟨w.heap.size, 2, none⟩ (.int .u32 y)).setCell ⟨w.heap.size, 3, none⟩ (.int .u8 z)).setCell ⟨w.heap.size, 4, none⟩ (.int .u8 k))) from chg_set_new (chg_set_new (chg_set_new (chg_set_new (chg_set_new (HK7.out) (Nat.le_refl _)) (Nat.le_refl _)) (Nat.le_refl _)) (Nat.le_refl _)) (Nat.le_refl _))
  clear AQ7 AR7 HK7 AX7 e0 g0 f0 e1 g1 f1 e2 g2 f2 e3 g3 f3 e4 g4 f4
  generalize (((((w7.setCell ⟨w.heap.size, 0, none⟩ (.string t)).setCell ⟨w.heap.size, 1, none⟩ (.int .u64 x)).setCell ⟨w.heap.size, 2, none⟩ (.int .u32 y)).setCell ⟨w.heap.size, 3, none⟩ (.int .u8 z)).setCell ⟨w.heap.size, 4, none⟩ (.int .u8 k)) = w9 at *
  go_wp2_with (fail)
  exact ⟨rfl, _, res37 _ w.heap.size _ _ _ _ _ _ rfl AQ9.out, rfl, AR9.out, HK9.out⟩
set_option maxRecDepth 100000 in
set_option maxHeartbeats 2000000 in
theorem dig_or (x y : Int) (hx : 0 ≤ x ∧ x ≤ 4294967295) (hy : 0 ≤ y ∧ y ≤ 4294967295) : Go.bits .or .u64 (x * 4294967296) y = x * 4294967296 + y := by
  have h := bits_or_u64_nat (x.toNat * 4294967296) y.toNat (by omega) (by omega)
  rw [show (((x.toNat * 4294967296 : Nat)) : Int) = x * 4294967296 from by omega, Int.toNat_of_nonneg hy.1] at h
  rw [h, show (4294967296 : Nat) = 2 ^ 32 from rfl, Nat.mul_comm, ← Nat.two_pow_add_eq_or_of_lt (by omega)]
  omega
set_option maxRecDepth 100000 in
set_option maxHeartbeats 2000000 in
theorem rdig_is (zr : Nat) (s : ByteArray) (a a1 a2 x y : Int) (h1 : numR s a 0 4294967295 = (x, a1, 0)) (h2 : numR s a1 0 4294967295 = (y, a2, 0)) (hx : 0 ≤ x ∧ x ≤ 4294967295) (hy : 0 ≤ y ∧ y ≤ 4294967295) (hs : s.size ≤ 900000) (w : World) (hA : At w zr #[.string s, .int .i64 a] 89) :
    Calls Try.prog 39 #[.pointer (some ⟨zr, 0, none⟩)] w fun e w' => e = .returned (.int .u64 (x * 4294967296 + y)) ∧ At w' zr #[.string s, .int .i64 a2] 89 ∧ Chg (fun x => x = zr) w w' := by
  have H1 := Lib.hid h1
  have H2 := Lib.hid h2
  have HSZ := Lib.hid (show s.size ≤ maxLen from by unfold maxLen; omega)
  have v1 : IntKind.u64.wrap (x * 4294967296) = x * 4294967296 := IntWalk.u64_in _ ⟨by omega, by omega⟩
  have v2 := dig_or x y hx hy
  have AR := Lib.hid hA
  clear h1 h2 hs hA hx hy
  go_enter Try.func39, Try.ntmps39
  go_wp2_with (first
    | (go_at_call 29; (with_reducible refine (rnum_is zr s _ _ _ _ _ H1.out HSZ.out _ AR.out).mono ?_); rintro e w2 ⟨rfl, ha, hk⟩; have AR2 := Lib.hid ha; have HK2 := Lib.hid hk; clear AR; clear ha hk)
    | (go_at_call 29; (with_reducible refine (rnum_is zr s _ _ _ _ _ H2.out HSZ.out _ AR2.out).mono ?_); rintro e w3 ⟨rfl, ha, hk⟩; have AR3 := Lib.hid ha; have HK3 := Lib.hid (chg_then HK2.out hk); clear AR2 HK2; clear ha hk))
  go_ret
  exact ⟨rfl, AR3.out, HK3.out⟩
end Go.Proofs.Ytdjompbhlkgmbaa.Msg
end
section
/- The reader over bytes: the walks (own text; printed by wip/tools/gen_recread.py, a program of this session). -/
namespace Go.Proofs.Ytdjompbhlkgmbaa.Rec
open Go.RowKit Go.Proofs.Ytdjompbhlkgmbaa.Mem Go.Proofs.Ytdjompbhlkgmbaa
open Go.Proofs.Ytdjompbhlkgmbaa.Num (getS textS)
set_option linter.unusedVariables false
set_option linter.unusedSimpArgs false
/-- What number answers, and where the reader stands then: the number, the place, the error. -/
def rdN (s : ByteArray) (a e most : Int) : Int × Int × Int :=
  if ¬ e = 0 then (0, a, e) else
  if ¬ (getS s a).2.2 = 0 then (0, a, (getS s a).2.2) else
  if most < (getS s a).1 then (0, a, 3) else ((getS s a).1, (getS s a).2.1, 0)
def rdT (s : ByteArray) (a e most : Int) : ByteArray × Int × Int :=
  if ¬ e = 0 then (⟨#[]⟩, a, e) else
  if ¬ (textS s a most).2.2 = 0 then (⟨#[]⟩, a, (textS s a most).2.2) else
  ((textS s a most).1, (textS s a most).2.1, 0)
def rdr (s : ByteArray) (a e : Int) : Array Value := #[.string s, .int .i64 a, .int .i64 e]
theorem number_err (b : Nat) (s : ByteArray) (a er m : Int) (w : World) (h : At w b (rdr s a er) 168) (he : ¬ er = 0) :
    Calls Try.prog 85 #[.pointer (some ⟨b, 0, none⟩), .int .u64 m] w fun e w' => e = .returned (.int .u64 0) ∧ At w' b (rdr s a er) 168 ∧ Chg (fun x => x = b) w w' := by
  have c0 : (er != 0) = true := bne_iff_ne.2 he
  have HR := Lib.hid h
  obtain ⟨x0, x1, x2, -⟩ := at3 (show At w b #[.string s, .int .i64 a, .int .i64 er] 168 from h)
  clear h
  go_enter Try.func85, Try.ntmps85
  go_wp2_with (fail)
  go_ret
  exact ⟨rfl, HR.out, chg_refl _ _⟩
theorem text_err (b : Nat) (s : ByteArray) (a er m : Int) (w : World) (h : At w b (rdr s a er) 168) (he : ¬ er = 0) :
    Calls Try.prog 84 #[.pointer (some ⟨b, 0, none⟩), .int .i64 m] w fun e w' => e = .returned (.string ⟨#[]⟩) ∧ At w' b (rdr s a er) 168 ∧ Chg (fun x => x = b) w w' := by
  have c0 : (er != 0) = true := bne_iff_ne.2 he
  have HR := Lib.hid h
  obtain ⟨x0, x1, x2, -⟩ := at3 (show At w b #[.string s, .int .i64 a, .int .i64 er] 168 from h)
  clear h
  go_enter Try.func84, Try.ntmps84
  go_wp2_with (fail)
  go_ret
  exact ⟨rfl, HR.out, chg_refl _ _⟩
set_option maxHeartbeats 800000 in
theorem number_1 (b : Nat) (s : ByteArray) (a m : Int) (w : World) (h : At w b (rdr s a 0) 168) (hs : s.size ≤ maxLen) (n p er : Int) (hg : getS s a = (n, p, er)) (h1 : ¬ er = 0) :
    Calls Try.prog 85 #[.pointer (some ⟨b, 0, none⟩), .int .u64 m] w fun e w' => e = .returned (.int .u64 0) ∧ At w' b (rdr s (a) (er)) 168 ∧ Chg (fun x => x = b) w w' := by
  have c0 : (er != 0) = true := bne_iff_ne.2 h1
  clear h1
  have hgg := fun w => Num.get_any s a w hs
  rw [hg] at hgg
  simp only [Num.getV] at hgg
  have HG := Lib.hid hgg
  clear hg hgg
  have HR : Hid (At w b #[.string s, .int .i64 a, .int .i64 0] 168) := Lib.hid h
  have HC := Lib.hid (chg_refl (fun x => x = b) w)
  obtain ⟨x0, x1, x2, z0, z1, z2⟩ := at3 HR.out
  clear h
  go_enter Try.func85, Try.ntmps85
  go_wp2_with (fail)
  clear x0 x1 x2 z0 z1 z2
  replace HR := Lib.hid (at_drew HR.out)
  replace HC := Lib.hid (chg_drew HC.out)
  refine wp_region_held_drew (S := (fun W => W.cell? ⟨b, 0, none⟩ = some (.string s) ∧ W.cell? ⟨b, 1, none⟩ = some (.int .i64 a) ∧ W.cell? ⟨b, 2, none⟩ = some (.int .i64 0))) (by kernel_rfl) ?_ (fun hHeld => ?_)
  · (try dsimp only)
    exact ⟨(at3 HR.out).1, (at3 HR.out).2.1, (at3 HR.out).2.2.1⟩
  refine Draw.take_w (i := 0) (v := ?vv1) rfl (by kernel_rfl) (by kernel_rfl) (by kernel_rfl) (fun _ _ _ h => h) (by rfl) ?hy1 (by assumption) ?rest1
  case hy1 => ((intro w hSw); (try dsimp only at hSw); go_simp; (try with_reducible rfl))
  (try simp only [Act.put, List.setIfInBounds_toArray, List.set_cons_zero, List.set_cons_succ])
  refine Draw.take_w (i := 1) (v := ?vv2) rfl (by kernel_rfl) (by kernel_rfl) (by kernel_rfl) (fun _ _ _ h => h) (by rfl) ?hy2 (by assumption) ?rest2
  case hy2 => ((intro w hSw); (try dsimp only at hSw); go_simp; (try with_reducible rfl))
  (try simp only [Act.put, List.setIfInBounds_toArray, List.set_cons_zero, List.set_cons_succ])
  refine Draw.take_w (i := 2) (v := ?vv3) rfl (by kernel_rfl) (by kernel_rfl) (by kernel_rfl) (fun _ _ _ h => h) (by rfl) ?hy3 (by assumption) ?rest3
  case hy3 => ((intro w hSw); (try dsimp only at hSw); go_simp; (try with_reducible rfl))
  (try simp only [Act.put, List.setIfInBounds_toArray, List.set_cons_zero, List.set_cons_succ])
  refine Draw.take_w (i := 3) (v := ?vv4) rfl (by kernel_rfl) (by kernel_rfl) (by kernel_rfl) (fun _ _ _ h => h) (by rfl) ?hy4 (by assumption) ?rest4
  case hy4 => ((intro w hSw); (try dsimp only at hSw); go_simp; (try with_reducible rfl))
  (try simp only [Act.put, List.setIfInBounds_toArray, List.set_cons_zero, List.set_cons_succ])
  refine Draw.take_w (i := 4) (v := ?vv5) rfl (by kernel_rfl) (by kernel_rfl) (by kernel_rfl) (fun _ _ _ h => h) (by rfl) ?hy5 (by assumption) ?rest5
  case hy5 => ((intro w hSw); (try dsimp only at hSw); go_simp; (try with_reducible rfl))
  (try simp only [Act.put, List.setIfInBounds_toArray, List.set_cons_zero, List.set_cons_succ])
  refine Draw.take_w (i := 5) (v := ?vv6) rfl (by kernel_rfl) (by kernel_rfl) (by kernel_rfl) (fun _ _ _ h => h) (by rfl) ?hy6 (by assumption) ?rest6
  case hy6 => ((intro w hSw); (try dsimp only at hSw); go_simp; (try with_reducible rfl))
  (try simp only [Act.put, List.setIfInBounds_toArray, List.set_cons_zero, List.set_cons_succ])
  refine Draw.take_w (i := 6) (v := ?vv7) rfl (by kernel_rfl) (by kernel_rfl) (by kernel_rfl) (fun _ _ _ h => h) (by rfl) ?hy7 (by assumption) ?rest7
  case hy7 => ((intro w hSw); (try dsimp only at hSw); go_simp; (try with_reducible rfl))
  (try simp only [Act.put, List.setIfInBounds_toArray, List.set_cons_zero, List.set_cons_succ])
  refine Draw.take_w (i := 7) (v := ?vv8) rfl (by kernel_rfl) (by kernel_rfl) (by kernel_rfl) (fun _ _ _ h => h) (by rfl) ?hy8 (by assumption) ?rest8
  case hy8 => ((intro w hSw); (try dsimp only at hSw); go_simp; (try with_reducible rfl))
  (try simp only [Act.put, List.setIfInBounds_toArray, List.set_cons_zero, List.set_cons_succ])
  refine Draw.call_d (i := 8) rfl (by kernel_rfl) (by rfl) (fun K hK => ?_)
  go_simp
  refine (HG.out _).mono ?_
  rintro e w1 ⟨rfl, nd, hw⟩
  replace HR : Hid (At w1 b #[.string s, .int .i64 a, .int .i64 0] 168) := Lib.hid (by rw [hw]; exact at_drewN (n := nd) HR.out)
  replace HC : Hid (Chg (fun x => x = b) w w1) := Lib.hid (by rw [hw]; exact chg_drewN (n := nd) HC.out)
  clear hw
  refine hK.out _ _ ?_ (fun hHeld => ?_)
  · (try dsimp only)
    exact ⟨(at3 HR.out).1, (at3 HR.out).2.1, (at3 HR.out).2.2.1⟩
  clear hK K
  (try simp only [Act.put, List.setIfInBounds_toArray, List.set_cons_zero, List.set_cons_succ])
  refine Draw.take_w (i := 9) (v := ?vv9) rfl (by kernel_rfl) (by kernel_rfl) (by kernel_rfl) (fun _ _ _ h => h) (by rfl) ?hy9 (by assumption) ?rest9
  case hy9 => ((intro w hSw); (try dsimp only at hSw); go_simp; (try with_reducible rfl))
  (try simp only [Act.put, List.setIfInBounds_toArray, List.set_cons_zero, List.set_cons_succ])
  refine Draw.take_w (i := 10) (v := ?vv10) rfl (by kernel_rfl) (by kernel_rfl) (by kernel_rfl) (fun _ _ _ h => h) (by rfl) ?hy10 (by assumption) ?rest10
  case hy10 => ((intro w hSw); (try dsimp only at hSw); go_simp; (try with_reducible rfl))
  (try simp only [Act.put, List.setIfInBounds_toArray, List.set_cons_zero, List.set_cons_succ])
  refine Draw.take_w (i := 11) (v := ?vv11) rfl (by kernel_rfl) (by kernel_rfl) (by kernel_rfl) (fun _ _ _ h => h) (by rfl) ?hy11 (by assumption) ?rest11
  case hy11 => ((intro w hSw); (try dsimp only at hSw); go_simp; (try with_reducible rfl))
  (try simp only [Act.put, List.setIfInBounds_toArray, List.set_cons_zero, List.set_cons_succ])
  refine Draw.take_w (i := 12) (v := ?vv12) rfl (by kernel_rfl) (by kernel_rfl) (by kernel_rfl) (fun _ _ _ h => h) (by rfl) ?hy12 (by assumption) ?rest12
  case hy12 => ((intro w hSw); (try dsimp only at hSw); go_simp; (try with_reducible rfl))
  (try simp only [Act.put, List.setIfInBounds_toArray, List.set_cons_zero, List.set_cons_succ])
  refine Draw.take_w (i := 13) (v := ?vv13) rfl (by kernel_rfl) (by kernel_rfl) (by kernel_rfl) (fun _ _ _ h => h) (by rfl) ?hy13 (by assumption) ?rest13
  case hy13 => ((intro w hSw); (try dsimp only at hSw); go_simp; (try with_reducible rfl))
  (try simp only [Act.put, List.setIfInBounds_toArray, List.set_cons_zero, List.set_cons_succ])
  refine Draw.take_w (i := 14) (v := ?vv14) rfl (by kernel_rfl) (by kernel_rfl) (by kernel_rfl) (fun _ _ _ h => h) (by rfl) ?hy14 (by assumption) ?rest14
  case hy14 => ((intro w hSw); (try dsimp only at hSw); go_simp; (try with_reducible rfl))
  (try simp only [Act.put, List.setIfInBounds_toArray, List.set_cons_zero, List.set_cons_succ])
  refine Draw.take_w (i := 15) (v := ?vv15) rfl (by kernel_rfl) (by kernel_rfl) (by kernel_rfl) (fun _ _ _ h => h) (by rfl) ?hy15 (by assumption) ?rest15
  case hy15 => ((intro w hSw); (try dsimp only at hSw); go_simp; (try with_reducible rfl))
  (try simp only [Act.put, List.setIfInBounds_toArray, List.set_cons_zero, List.set_cons_succ])
  refine wpAnyH_done (by kernel_rfl) ?_ _
  obtain ⟨x0, x1, x2, z0, z1, z2⟩ := at3 HR.out
  go_wp2_with (fail)
  go_ret
  exact ⟨rfl, at_set' (i := 2) (v := .int .i64 (er)) HR.out rfl, chg_set HC.out rfl⟩
set_option maxHeartbeats 800000 in
theorem number_2 (b : Nat) (s : ByteArray) (a m : Int) (w : World) (h : At w b (rdr s a 0) 168) (hs : s.size ≤ maxLen) (n p er : Int) (hg : getS s a = (n, p, er)) (h1 : er = 0) (h2 : m < n) :
    Calls Try.prog 85 #[.pointer (some ⟨b, 0, none⟩), .int .u64 m] w fun e w' => e = .returned (.int .u64 0) ∧ At w' b (rdr s (a) (3)) 168 ∧ Chg (fun x => x = b) w w' := by
  have c0 : (er != 0) = false := by rw [h1]; rfl
  have c1 : decide (m < n) = true := decide_eq_true h2
  clear h1 h2
  have hgg := fun w => Num.get_any s a w hs
  rw [hg] at hgg
  simp only [Num.getV] at hgg
  have HG := Lib.hid hgg
  clear hg hgg
  have HR : Hid (At w b #[.string s, .int .i64 a, .int .i64 0] 168) := Lib.hid h
  have HC := Lib.hid (chg_refl (fun x => x = b) w)
  obtain ⟨x0, x1, x2, z0, z1, z2⟩ := at3 HR.out
  clear h
  go_enter Try.func85, Try.ntmps85
  go_wp2_with (fail)
  clear x0 x1 x2 z0 z1 z2
  replace HR := Lib.hid (at_drew HR.out)
  replace HC := Lib.hid (chg_drew HC.out)
  refine wp_region_held_drew (S := (fun W => W.cell? ⟨b, 0, none⟩ = some (.string s) ∧ W.cell? ⟨b, 1, none⟩ = some (.int .i64 a) ∧ W.cell? ⟨b, 2, none⟩ = some (.int .i64 0))) (by kernel_rfl) ?_ (fun hHeld => ?_)
  · (try dsimp only)
    exact ⟨(at3 HR.out).1, (at3 HR.out).2.1, (at3 HR.out).2.2.1⟩
  refine Draw.take_w (i := 0) (v := ?vv16) rfl (by kernel_rfl) (by kernel_rfl) (by kernel_rfl) (fun _ _ _ h => h) (by rfl) ?hy16 (by assumption) ?rest16
  case hy16 => ((intro w hSw); (try dsimp only at hSw); go_simp; (try with_reducible rfl))
  (try simp only [Act.put, List.setIfInBounds_toArray, List.set_cons_zero, List.set_cons_succ])
  refine Draw.take_w (i := 1) (v := ?vv17) rfl (by kernel_rfl) (by kernel_rfl) (by kernel_rfl) (fun _ _ _ h => h) (by rfl) ?hy17 (by assumption) ?rest17
  case hy17 => ((intro w hSw); (try dsimp only at hSw); go_simp; (try with_reducible rfl))
  (try simp only [Act.put, List.setIfInBounds_toArray, List.set_cons_zero, List.set_cons_succ])
  refine Draw.take_w (i := 2) (v := ?vv18) rfl (by kernel_rfl) (by kernel_rfl) (by kernel_rfl) (fun _ _ _ h => h) (by rfl) ?hy18 (by assumption) ?rest18
  case hy18 => ((intro w hSw); (try dsimp only at hSw); go_simp; (try with_reducible rfl))
  (try simp only [Act.put, List.setIfInBounds_toArray, List.set_cons_zero, List.set_cons_succ])
  refine Draw.take_w (i := 3) (v := ?vv19) rfl (by kernel_rfl) (by kernel_rfl) (by kernel_rfl) (fun _ _ _ h => h) (by rfl) ?hy19 (by assumption) ?rest19
  case hy19 => ((intro w hSw); (try dsimp only at hSw); go_simp; (try with_reducible rfl))
  (try simp only [Act.put, List.setIfInBounds_toArray, List.set_cons_zero, List.set_cons_succ])
  refine Draw.take_w (i := 4) (v := ?vv20) rfl (by kernel_rfl) (by kernel_rfl) (by kernel_rfl) (fun _ _ _ h => h) (by rfl) ?hy20 (by assumption) ?rest20
  case hy20 => ((intro w hSw); (try dsimp only at hSw); go_simp; (try with_reducible rfl))
  (try simp only [Act.put, List.setIfInBounds_toArray, List.set_cons_zero, List.set_cons_succ])
  refine Draw.take_w (i := 5) (v := ?vv21) rfl (by kernel_rfl) (by kernel_rfl) (by kernel_rfl) (fun _ _ _ h => h) (by rfl) ?hy21 (by assumption) ?rest21
  case hy21 => ((intro w hSw); (try dsimp only at hSw); go_simp; (try with_reducible rfl))
  (try simp only [Act.put, List.setIfInBounds_toArray, List.set_cons_zero, List.set_cons_succ])
  refine Draw.take_w (i := 6) (v := ?vv22) rfl (by kernel_rfl) (by kernel_rfl) (by kernel_rfl) (fun _ _ _ h => h) (by rfl) ?hy22 (by assumption) ?rest22
  case hy22 => ((intro w hSw); (try dsimp only at hSw); go_simp; (try with_reducible rfl))
  (try simp only [Act.put, List.setIfInBounds_toArray, List.set_cons_zero, List.set_cons_succ])
  refine Draw.take_w (i := 7) (v := ?vv23) rfl (by kernel_rfl) (by kernel_rfl) (by kernel_rfl) (fun _ _ _ h => h) (by rfl) ?hy23 (by assumption) ?rest23
  case hy23 => ((intro w hSw); (try dsimp only at hSw); go_simp; (try with_reducible rfl))
  (try simp only [Act.put, List.setIfInBounds_toArray, List.set_cons_zero, List.set_cons_succ])
  refine Draw.call_d (i := 8) rfl (by kernel_rfl) (by rfl) (fun K hK => ?_)
  go_simp
  refine (HG.out _).mono ?_
  rintro e w1 ⟨rfl, nd, hw⟩
  replace HR : Hid (At w1 b #[.string s, .int .i64 a, .int .i64 0] 168) := Lib.hid (by rw [hw]; exact at_drewN (n := nd) HR.out)
  replace HC : Hid (Chg (fun x => x = b) w w1) := Lib.hid (by rw [hw]; exact chg_drewN (n := nd) HC.out)
  clear hw
  refine hK.out _ _ ?_ (fun hHeld => ?_)
  · (try dsimp only)
    exact ⟨(at3 HR.out).1, (at3 HR.out).2.1, (at3 HR.out).2.2.1⟩
  clear hK K
  (try simp only [Act.put, List.setIfInBounds_toArray, List.set_cons_zero, List.set_cons_succ])
  refine Draw.take_w (i := 9) (v := ?vv24) rfl (by kernel_rfl) (by kernel_rfl) (by kernel_rfl) (fun _ _ _ h => h) (by rfl) ?hy24 (by assumption) ?rest24
  case hy24 => ((intro w hSw); (try dsimp only at hSw); go_simp; (try with_reducible rfl))
  (try simp only [Act.put, List.setIfInBounds_toArray, List.set_cons_zero, List.set_cons_succ])
  refine Draw.take_w (i := 10) (v := ?vv25) rfl (by kernel_rfl) (by kernel_rfl) (by kernel_rfl) (fun _ _ _ h => h) (by rfl) ?hy25 (by assumption) ?rest25
  case hy25 => ((intro w hSw); (try dsimp only at hSw); go_simp; (try with_reducible rfl))
  (try simp only [Act.put, List.setIfInBounds_toArray, List.set_cons_zero, List.set_cons_succ])
  refine Draw.take_w (i := 11) (v := ?vv26) rfl (by kernel_rfl) (by kernel_rfl) (by kernel_rfl) (fun _ _ _ h => h) (by rfl) ?hy26 (by assumption) ?rest26
  case hy26 => ((intro w hSw); (try dsimp only at hSw); go_simp; (try with_reducible rfl))
  (try simp only [Act.put, List.setIfInBounds_toArray, List.set_cons_zero, List.set_cons_succ])
  refine Draw.take_w (i := 12) (v := ?vv27) rfl (by kernel_rfl) (by kernel_rfl) (by kernel_rfl) (fun _ _ _ h => h) (by rfl) ?hy27 (by assumption) ?rest27
  case hy27 => ((intro w hSw); (try dsimp only at hSw); go_simp; (try with_reducible rfl))
  (try simp only [Act.put, List.setIfInBounds_toArray, List.set_cons_zero, List.set_cons_succ])
  refine Draw.take_w (i := 13) (v := ?vv28) rfl (by kernel_rfl) (by kernel_rfl) (by kernel_rfl) (fun _ _ _ h => h) (by rfl) ?hy28 (by assumption) ?rest28
  case hy28 => ((intro w hSw); (try dsimp only at hSw); go_simp; (try with_reducible rfl))
  (try simp only [Act.put, List.setIfInBounds_toArray, List.set_cons_zero, List.set_cons_succ])
  refine Draw.take_w (i := 14) (v := ?vv29) rfl (by kernel_rfl) (by kernel_rfl) (by kernel_rfl) (fun _ _ _ h => h) (by rfl) ?hy29 (by assumption) ?rest29
  case hy29 => ((intro w hSw); (try dsimp only at hSw); go_simp; (try with_reducible rfl))
  (try simp only [Act.put, List.setIfInBounds_toArray, List.set_cons_zero, List.set_cons_succ])
  refine Draw.take_w (i := 15) (v := ?vv30) rfl (by kernel_rfl) (by kernel_rfl) (by kernel_rfl) (fun _ _ _ h => h) (by rfl) ?hy30 (by assumption) ?rest30
  case hy30 => ((intro w hSw); (try dsimp only at hSw); go_simp; (try with_reducible rfl))
  (try simp only [Act.put, List.setIfInBounds_toArray, List.set_cons_zero, List.set_cons_succ])
  refine wpAnyH_done (by kernel_rfl) ?_ _
  obtain ⟨x0, x1, x2, z0, z1, z2⟩ := at3 HR.out
  go_wp2_with (fail)
  go_ret
  exact ⟨rfl, at_set' (i := 2) (v := .int .i64 (3)) HR.out rfl, chg_set HC.out rfl⟩
set_option maxHeartbeats 800000 in
theorem number_3 (b : Nat) (s : ByteArray) (a m : Int) (w : World) (h : At w b (rdr s a 0) 168) (hs : s.size ≤ maxLen) (n p er : Int) (hg : getS s a = (n, p, er)) (h1 : er = 0) (h2 : ¬ m < n) :
    Calls Try.prog 85 #[.pointer (some ⟨b, 0, none⟩), .int .u64 m] w fun e w' => e = .returned (.int .u64 n) ∧ At w' b (rdr s (p) (0)) 168 ∧ Chg (fun x => x = b) w w' := by
  have c0 : (er != 0) = false := by rw [h1]; rfl
  have c1 : decide (m < n) = false := decide_eq_false h2
  clear h1 h2
  have hgg := fun w => Num.get_any s a w hs
  rw [hg] at hgg
  simp only [Num.getV] at hgg
  have HG := Lib.hid hgg
  clear hg hgg
  have HR : Hid (At w b #[.string s, .int .i64 a, .int .i64 0] 168) := Lib.hid h
  have HC := Lib.hid (chg_refl (fun x => x = b) w)
  obtain ⟨x0, x1, x2, z0, z1, z2⟩ := at3 HR.out
  clear h
  go_enter Try.func85, Try.ntmps85
  go_wp2_with (fail)
  clear x0 x1 x2 z0 z1 z2
  replace HR := Lib.hid (at_drew HR.out)
  replace HC := Lib.hid (chg_drew HC.out)
  refine wp_region_held_drew (S := (fun W => W.cell? ⟨b, 0, none⟩ = some (.string s) ∧ W.cell? ⟨b, 1, none⟩ = some (.int .i64 a) ∧ W.cell? ⟨b, 2, none⟩ = some (.int .i64 0))) (by kernel_rfl) ?_ (fun hHeld => ?_)
  · (try dsimp only)
    exact ⟨(at3 HR.out).1, (at3 HR.out).2.1, (at3 HR.out).2.2.1⟩
  refine Draw.take_w (i := 0) (v := ?vv31) rfl (by kernel_rfl) (by kernel_rfl) (by kernel_rfl) (fun _ _ _ h => h) (by rfl) ?hy31 (by assumption) ?rest31
  case hy31 => ((intro w hSw); (try dsimp only at hSw); go_simp; (try with_reducible rfl))
  (try simp only [Act.put, List.setIfInBounds_toArray, List.set_cons_zero, List.set_cons_succ])
  refine Draw.take_w (i := 1) (v := ?vv32) rfl (by kernel_rfl) (by kernel_rfl) (by kernel_rfl) (fun _ _ _ h => h) (by rfl) ?hy32 (by assumption) ?rest32
  case hy32 => ((intro w hSw); (try dsimp only at hSw); go_simp; (try with_reducible rfl))
  (try simp only [Act.put, List.setIfInBounds_toArray, List.set_cons_zero, List.set_cons_succ])
  refine Draw.take_w (i := 2) (v := ?vv33) rfl (by kernel_rfl) (by kernel_rfl) (by kernel_rfl) (fun _ _ _ h => h) (by rfl) ?hy33 (by assumption) ?rest33
  case hy33 => ((intro w hSw); (try dsimp only at hSw); go_simp; (try with_reducible rfl))
  (try simp only [Act.put, List.setIfInBounds_toArray, List.set_cons_zero, List.set_cons_succ])
  refine Draw.take_w (i := 3) (v := ?vv34) rfl (by kernel_rfl) (by kernel_rfl) (by kernel_rfl) (fun _ _ _ h => h) (by rfl) ?hy34 (by assumption) ?rest34
  case hy34 => ((intro w hSw); (try dsimp only at hSw); go_simp; (try with_reducible rfl))
  (try simp only [Act.put, List.setIfInBounds_toArray, List.set_cons_zero, List.set_cons_succ])
  refine Draw.take_w (i := 4) (v := ?vv35) rfl (by kernel_rfl) (by kernel_rfl) (by kernel_rfl) (fun _ _ _ h => h) (by rfl) ?hy35 (by assumption) ?rest35
  case hy35 => ((intro w hSw); (try dsimp only at hSw); go_simp; (try with_reducible rfl))
  (try simp only [Act.put, List.setIfInBounds_toArray, List.set_cons_zero, List.set_cons_succ])
  refine Draw.take_w (i := 5) (v := ?vv36) rfl (by kernel_rfl) (by kernel_rfl) (by kernel_rfl) (fun _ _ _ h => h) (by rfl) ?hy36 (by assumption) ?rest36
  case hy36 => ((intro w hSw); (try dsimp only at hSw); go_simp; (try with_reducible rfl))
  (try simp only [Act.put, List.setIfInBounds_toArray, List.set_cons_zero, List.set_cons_succ])
  refine Draw.take_w (i := 6) (v := ?vv37) rfl (by kernel_rfl) (by kernel_rfl) (by kernel_rfl) (fun _ _ _ h => h) (by rfl) ?hy37 (by assumption) ?rest37
  case hy37 => ((intro w hSw); (try dsimp only at hSw); go_simp; (try with_reducible rfl))
  (try simp only [Act.put, List.setIfInBounds_toArray, List.set_cons_zero, List.set_cons_succ])
  refine Draw.take_w (i := 7) (v := ?vv38) rfl (by kernel_rfl) (by kernel_rfl) (by kernel_rfl) (fun _ _ _ h => h) (by rfl) ?hy38 (by assumption) ?rest38
  case hy38 => ((intro w hSw); (try dsimp only at hSw); go_simp; (try with_reducible rfl))
  (try simp only [Act.put, List.setIfInBounds_toArray, List.set_cons_zero, List.set_cons_succ])
  refine Draw.call_d (i := 8) rfl (by kernel_rfl) (by rfl) (fun K hK => ?_)
  go_simp
  refine (HG.out _).mono ?_
  rintro e w1 ⟨rfl, nd, hw⟩
  replace HR : Hid (At w1 b #[.string s, .int .i64 a, .int .i64 0] 168) := Lib.hid (by rw [hw]; exact at_drewN (n := nd) HR.out)
  replace HC : Hid (Chg (fun x => x = b) w w1) := Lib.hid (by rw [hw]; exact chg_drewN (n := nd) HC.out)
  clear hw
  refine hK.out _ _ ?_ (fun hHeld => ?_)
  · (try dsimp only)
    exact ⟨(at3 HR.out).1, (at3 HR.out).2.1, (at3 HR.out).2.2.1⟩
  clear hK K
  (try simp only [Act.put, List.setIfInBounds_toArray, List.set_cons_zero, List.set_cons_succ])
  refine Draw.take_w (i := 9) (v := ?vv39) rfl (by kernel_rfl) (by kernel_rfl) (by kernel_rfl) (fun _ _ _ h => h) (by rfl) ?hy39 (by assumption) ?rest39
  case hy39 => ((intro w hSw); (try dsimp only at hSw); go_simp; (try with_reducible rfl))
  (try simp only [Act.put, List.setIfInBounds_toArray, List.set_cons_zero, List.set_cons_succ])
  refine Draw.take_w (i := 10) (v := ?vv40) rfl (by kernel_rfl) (by kernel_rfl) (by kernel_rfl) (fun _ _ _ h => h) (by rfl) ?hy40 (by assumption) ?rest40
  case hy40 => ((intro w hSw); (try dsimp only at hSw); go_simp; (try with_reducible rfl))
  (try simp only [Act.put, List.setIfInBounds_toArray, List.set_cons_zero, List.set_cons_succ])
  refine Draw.take_w (i := 11) (v := ?vv41) rfl (by kernel_rfl) (by kernel_rfl) (by kernel_rfl) (fun _ _ _ h => h) (by rfl) ?hy41 (by assumption) ?rest41
  case hy41 => ((intro w hSw); (try dsimp only at hSw); go_simp; (try with_reducible rfl))
  (try simp only [Act.put, List.setIfInBounds_toArray, List.set_cons_zero, List.set_cons_succ])
  refine Draw.take_w (i := 12) (v := ?vv42) rfl (by kernel_rfl) (by kernel_rfl) (by kernel_rfl) (fun _ _ _ h => h) (by rfl) ?hy42 (by assumption) ?rest42
  case hy42 => ((intro w hSw); (try dsimp only at hSw); go_simp; (try with_reducible rfl))
  (try simp only [Act.put, List.setIfInBounds_toArray, List.set_cons_zero, List.set_cons_succ])
  refine Draw.take_w (i := 13) (v := ?vv43) rfl (by kernel_rfl) (by kernel_rfl) (by kernel_rfl) (fun _ _ _ h => h) (by rfl) ?hy43 (by assumption) ?rest43
  case hy43 => ((intro w hSw); (try dsimp only at hSw); go_simp; (try with_reducible rfl))
  (try simp only [Act.put, List.setIfInBounds_toArray, List.set_cons_zero, List.set_cons_succ])
  refine Draw.take_w (i := 14) (v := ?vv44) rfl (by kernel_rfl) (by kernel_rfl) (by kernel_rfl) (fun _ _ _ h => h) (by rfl) ?hy44 (by assumption) ?rest44
  case hy44 => ((intro w hSw); (try dsimp only at hSw); go_simp; (try with_reducible rfl))
  (try simp only [Act.put, List.setIfInBounds_toArray, List.set_cons_zero, List.set_cons_succ])
  refine Draw.take_w (i := 15) (v := ?vv45) rfl (by kernel_rfl) (by kernel_rfl) (by kernel_rfl) (fun _ _ _ h => h) (by rfl) ?hy45 (by assumption) ?rest45
  case hy45 => ((intro w hSw); (try dsimp only at hSw); go_simp; (try with_reducible rfl))
  (try simp only [Act.put, List.setIfInBounds_toArray, List.set_cons_zero, List.set_cons_succ])
  refine wpAnyH_done (by kernel_rfl) ?_ _
  obtain ⟨x0, x1, x2, z0, z1, z2⟩ := at3 HR.out
  go_wp2_with (fail)
  go_ret
  exact ⟨rfl, at_set' (i := 1) (v := .int .i64 (p)) HR.out rfl, chg_set HC.out rfl⟩
theorem number_any (b : Nat) (s : ByteArray) (a er m : Int) (w : World) (h : At w b (rdr s a er) 168) (hs : s.size ≤ maxLen) :
    Calls Try.prog 85 #[.pointer (some ⟨b, 0, none⟩), .int .u64 m] w fun e w' => e = .returned (.int .u64 (rdN s a er m).1) ∧ At w' b (rdr s (rdN s a er m).2.1 (rdN s a er m).2.2) 168 ∧ Chg (fun x => x = b) w w' := by
  unfold rdN
  by_cases h0 : er = 0
  · subst h0
    rw [if_neg (by simp)]
    obtain ⟨n, p, er, hg⟩ : ∃ n p er, getS s a = (n, p, er) := ⟨_, _, _, rfl⟩
    rw [hg]
    by_cases h1 : er = 0
    · rw [if_neg (by simpa using h1)]
      by_cases h2 : m < n
      · rw [if_pos h2]; exact number_2 b s a m w h hs n p er hg h1 h2
      · rw [if_neg h2]; exact number_3 b s a m w h hs n p er hg h1 h2
    · rw [if_pos h1]; exact number_1 b s a m w h hs n p er hg h1
  · rw [if_pos h0]; exact number_err b s a er m w h h0
set_option maxHeartbeats 800000 in
theorem text_1 (b : Nat) (s : ByteArray) (a m : Int) (w : World) (h : At w b (rdr s a 0) 168) (hs : s.size ≤ maxLen) (hm : m ≤ 9223372036854775807) (t : ByteArray) (p er : Int) (hg : textS s a m = (t, p, er)) (h1 : ¬ er = 0) :
    Calls Try.prog 84 #[.pointer (some ⟨b, 0, none⟩), .int .i64 m] w fun e w' => e = .returned (.string ⟨#[]⟩) ∧ At w' b (rdr s (a) (er)) 168 ∧ Chg (fun x => x = b) w w' := by
  have c0 : (er != 0) = true := bne_iff_ne.2 h1
  clear h1
  have hgg := fun w => Num.getText_any s a m w hs hm
  rw [hg] at hgg
  simp only [Num.textV] at hgg
  have HG := Lib.hid hgg
  clear hg hgg
  have HR : Hid (At w b #[.string s, .int .i64 a, .int .i64 0] 168) := Lib.hid h
  have HC := Lib.hid (chg_refl (fun x => x = b) w)
  obtain ⟨x0, x1, x2, z0, z1, z2⟩ := at3 HR.out
  clear h
  go_enter Try.func84, Try.ntmps84
  go_wp2_with (fail)
  clear x0 x1 x2 z0 z1 z2
  replace HR := Lib.hid (at_drew HR.out)
  replace HC := Lib.hid (chg_drew HC.out)
  refine wp_region_held_drew (S := (fun W => W.cell? ⟨b, 0, none⟩ = some (.string s) ∧ W.cell? ⟨b, 1, none⟩ = some (.int .i64 a) ∧ W.cell? ⟨b, 2, none⟩ = some (.int .i64 0))) (by kernel_rfl) ?_ (fun hHeld => ?_)
  · (try dsimp only)
    exact ⟨(at3 HR.out).1, (at3 HR.out).2.1, (at3 HR.out).2.2.1⟩
  refine Draw.take_w (i := 0) (v := ?vv46) rfl (by kernel_rfl) (by kernel_rfl) (by kernel_rfl) (fun _ _ _ h => h) (by rfl) ?hy46 (by assumption) ?rest46
  case hy46 => ((intro w hSw); (try dsimp only at hSw); go_simp; (try with_reducible rfl))
  (try simp only [Act.put, List.setIfInBounds_toArray, List.set_cons_zero, List.set_cons_succ])
  refine Draw.take_w (i := 1) (v := ?vv47) rfl (by kernel_rfl) (by kernel_rfl) (by kernel_rfl) (fun _ _ _ h => h) (by rfl) ?hy47 (by assumption) ?rest47
  case hy47 => ((intro w hSw); (try dsimp only at hSw); go_simp; (try with_reducible rfl))
  (try simp only [Act.put, List.setIfInBounds_toArray, List.set_cons_zero, List.set_cons_succ])
  refine Draw.take_w (i := 2) (v := ?vv48) rfl (by kernel_rfl) (by kernel_rfl) (by kernel_rfl) (fun _ _ _ h => h) (by rfl) ?hy48 (by assumption) ?rest48
  case hy48 => ((intro w hSw); (try dsimp only at hSw); go_simp; (try with_reducible rfl))
  (try simp only [Act.put, List.setIfInBounds_toArray, List.set_cons_zero, List.set_cons_succ])
  refine Draw.take_w (i := 3) (v := ?vv49) rfl (by kernel_rfl) (by kernel_rfl) (by kernel_rfl) (fun _ _ _ h => h) (by rfl) ?hy49 (by assumption) ?rest49
  case hy49 => ((intro w hSw); (try dsimp only at hSw); go_simp; (try with_reducible rfl))
  (try simp only [Act.put, List.setIfInBounds_toArray, List.set_cons_zero, List.set_cons_succ])
  refine Draw.take_w (i := 4) (v := ?vv50) rfl (by kernel_rfl) (by kernel_rfl) (by kernel_rfl) (fun _ _ _ h => h) (by rfl) ?hy50 (by assumption) ?rest50
  case hy50 => ((intro w hSw); (try dsimp only at hSw); go_simp; (try with_reducible rfl))
  (try simp only [Act.put, List.setIfInBounds_toArray, List.set_cons_zero, List.set_cons_succ])
  refine Draw.take_w (i := 5) (v := ?vv51) rfl (by kernel_rfl) (by kernel_rfl) (by kernel_rfl) (fun _ _ _ h => h) (by rfl) ?hy51 (by assumption) ?rest51
  case hy51 => ((intro w hSw); (try dsimp only at hSw); go_simp; (try with_reducible rfl))
  (try simp only [Act.put, List.setIfInBounds_toArray, List.set_cons_zero, List.set_cons_succ])
  refine Draw.take_w (i := 6) (v := ?vv52) rfl (by kernel_rfl) (by kernel_rfl) (by kernel_rfl) (fun _ _ _ h => h) (by rfl) ?hy52 (by assumption) ?rest52
  case hy52 => ((intro w hSw); (try dsimp only at hSw); go_simp; (try with_reducible rfl))
  (try simp only [Act.put, List.setIfInBounds_toArray, List.set_cons_zero, List.set_cons_succ])
  refine Draw.take_w (i := 7) (v := ?vv53) rfl (by kernel_rfl) (by kernel_rfl) (by kernel_rfl) (fun _ _ _ h => h) (by rfl) ?hy53 (by assumption) ?rest53
  case hy53 => ((intro w hSw); (try dsimp only at hSw); go_simp; (try with_reducible rfl))
  (try simp only [Act.put, List.setIfInBounds_toArray, List.set_cons_zero, List.set_cons_succ])
  refine Draw.take_w (i := 8) (v := ?vv54) rfl (by kernel_rfl) (by kernel_rfl) (by kernel_rfl) (fun _ _ _ h => h) (by rfl) ?hy54 (by assumption) ?rest54
  case hy54 => ((intro w hSw); (try dsimp only at hSw); go_simp; (try with_reducible rfl))
  (try simp only [Act.put, List.setIfInBounds_toArray, List.set_cons_zero, List.set_cons_succ])
  refine Draw.call_d (i := 9) rfl (by kernel_rfl) (by rfl) (fun K hK => ?_)
  go_simp
  refine (HG.out _).mono ?_
  rintro e w1 ⟨rfl, b1⟩
  replace HR := Lib.hid (at_below HR.out b1)
  replace HC := Lib.hid (chg_below HC.out b1)
  clear b1
  refine hK.out _ _ ?_ (fun hHeld => ?_)
  · (try dsimp only)
    exact ⟨(at3 HR.out).1, (at3 HR.out).2.1, (at3 HR.out).2.2.1⟩
  clear hK K
  (try simp only [Act.put, List.setIfInBounds_toArray, List.set_cons_zero, List.set_cons_succ])
  refine Draw.take_w (i := 10) (v := ?vv55) rfl (by kernel_rfl) (by kernel_rfl) (by kernel_rfl) (fun _ _ _ h => h) (by rfl) ?hy55 (by assumption) ?rest55
  case hy55 => ((intro w hSw); (try dsimp only at hSw); go_simp; (try with_reducible rfl))
  (try simp only [Act.put, List.setIfInBounds_toArray, List.set_cons_zero, List.set_cons_succ])
  refine Draw.take_w (i := 11) (v := ?vv56) rfl (by kernel_rfl) (by kernel_rfl) (by kernel_rfl) (fun _ _ _ h => h) (by rfl) ?hy56 (by assumption) ?rest56
  case hy56 => ((intro w hSw); (try dsimp only at hSw); go_simp; (try with_reducible rfl))
  (try simp only [Act.put, List.setIfInBounds_toArray, List.set_cons_zero, List.set_cons_succ])
  refine Draw.take_w (i := 12) (v := ?vv57) rfl (by kernel_rfl) (by kernel_rfl) (by kernel_rfl) (fun _ _ _ h => h) (by rfl) ?hy57 (by assumption) ?rest57
  case hy57 => ((intro w hSw); (try dsimp only at hSw); go_simp; (try with_reducible rfl))
  (try simp only [Act.put, List.setIfInBounds_toArray, List.set_cons_zero, List.set_cons_succ])
  refine Draw.take_w (i := 13) (v := ?vv58) rfl (by kernel_rfl) (by kernel_rfl) (by kernel_rfl) (fun _ _ _ h => h) (by rfl) ?hy58 (by assumption) ?rest58
  case hy58 => ((intro w hSw); (try dsimp only at hSw); go_simp; (try with_reducible rfl))
  (try simp only [Act.put, List.setIfInBounds_toArray, List.set_cons_zero, List.set_cons_succ])
  refine Draw.take_w (i := 14) (v := ?vv59) rfl (by kernel_rfl) (by kernel_rfl) (by kernel_rfl) (fun _ _ _ h => h) (by rfl) ?hy59 (by assumption) ?rest59
  case hy59 => ((intro w hSw); (try dsimp only at hSw); go_simp; (try with_reducible rfl))
  (try simp only [Act.put, List.setIfInBounds_toArray, List.set_cons_zero, List.set_cons_succ])
  refine Draw.take_w (i := 15) (v := ?vv60) rfl (by kernel_rfl) (by kernel_rfl) (by kernel_rfl) (fun _ _ _ h => h) (by rfl) ?hy60 (by assumption) ?rest60
  case hy60 => ((intro w hSw); (try dsimp only at hSw); go_simp; (try with_reducible rfl))
  (try simp only [Act.put, List.setIfInBounds_toArray, List.set_cons_zero, List.set_cons_succ])
  refine Draw.take_w (i := 16) (v := ?vv61) rfl (by kernel_rfl) (by kernel_rfl) (by kernel_rfl) (fun _ _ _ h => h) (by rfl) ?hy61 (by assumption) ?rest61
  case hy61 => ((intro w hSw); (try dsimp only at hSw); go_simp; (try with_reducible rfl))
  (try simp only [Act.put, List.setIfInBounds_toArray, List.set_cons_zero, List.set_cons_succ])
  refine wpAnyH_done (by kernel_rfl) ?_ _
  obtain ⟨x0, x1, x2, z0, z1, z2⟩ := at3 HR.out
  go_wp2_with (fail)
  go_ret
  exact ⟨rfl, at_set' (i := 2) (v := .int .i64 (er)) HR.out rfl, chg_set HC.out rfl⟩
set_option maxHeartbeats 800000 in
theorem text_2 (b : Nat) (s : ByteArray) (a m : Int) (w : World) (h : At w b (rdr s a 0) 168) (hs : s.size ≤ maxLen) (hm : m ≤ 9223372036854775807) (t : ByteArray) (p er : Int) (hg : textS s a m = (t, p, er)) (h1 : er = 0) :
    Calls Try.prog 84 #[.pointer (some ⟨b, 0, none⟩), .int .i64 m] w fun e w' => e = .returned (.string t) ∧ At w' b (rdr s (p) (0)) 168 ∧ Chg (fun x => x = b) w w' := by
  have c0 : (er != 0) = false := by rw [h1]; rfl
  clear h1
  have hgg := fun w => Num.getText_any s a m w hs hm
  rw [hg] at hgg
  simp only [Num.textV] at hgg
  have HG := Lib.hid hgg
  clear hg hgg
  have HR : Hid (At w b #[.string s, .int .i64 a, .int .i64 0] 168) := Lib.hid h
  have HC := Lib.hid (chg_refl (fun x => x = b) w)
  obtain ⟨x0, x1, x2, z0, z1, z2⟩ := at3 HR.out
  clear h
  go_enter Try.func84, Try.ntmps84
  go_wp2_with (fail)
  clear x0 x1 x2 z0 z1 z2
  replace HR := Lib.hid (at_drew HR.out)
  replace HC := Lib.hid (chg_drew HC.out)
  refine wp_region_held_drew (S := (fun W => W.cell? ⟨b, 0, none⟩ = some (.string s) ∧ W.cell? ⟨b, 1, none⟩ = some (.int .i64 a) ∧ W.cell? ⟨b, 2, none⟩ = some (.int .i64 0))) (by kernel_rfl) ?_ (fun hHeld => ?_)
  · (try dsimp only)
    exact ⟨(at3 HR.out).1, (at3 HR.out).2.1, (at3 HR.out).2.2.1⟩
  refine Draw.take_w (i := 0) (v := ?vv62) rfl (by kernel_rfl) (by kernel_rfl) (by kernel_rfl) (fun _ _ _ h => h) (by rfl) ?hy62 (by assumption) ?rest62
  case hy62 => ((intro w hSw); (try dsimp only at hSw); go_simp; (try with_reducible rfl))
  (try simp only [Act.put, List.setIfInBounds_toArray, List.set_cons_zero, List.set_cons_succ])
  refine Draw.take_w (i := 1) (v := ?vv63) rfl (by kernel_rfl) (by kernel_rfl) (by kernel_rfl) (fun _ _ _ h => h) (by rfl) ?hy63 (by assumption) ?rest63
  case hy63 => ((intro w hSw); (try dsimp only at hSw); go_simp; (try with_reducible rfl))
  (try simp only [Act.put, List.setIfInBounds_toArray, List.set_cons_zero, List.set_cons_succ])
  refine Draw.take_w (i := 2) (v := ?vv64) rfl (by kernel_rfl) (by kernel_rfl) (by kernel_rfl) (fun _ _ _ h => h) (by rfl) ?hy64 (by assumption) ?rest64
  case hy64 => ((intro w hSw); (try dsimp only at hSw); go_simp; (try with_reducible rfl))
  (try simp only [Act.put, List.setIfInBounds_toArray, List.set_cons_zero, List.set_cons_succ])
  refine Draw.take_w (i := 3) (v := ?vv65) rfl (by kernel_rfl) (by kernel_rfl) (by kernel_rfl) (fun _ _ _ h => h) (by rfl) ?hy65 (by assumption) ?rest65
  case hy65 => ((intro w hSw); (try dsimp only at hSw); go_simp; (try with_reducible rfl))
  (try simp only [Act.put, List.setIfInBounds_toArray, List.set_cons_zero, List.set_cons_succ])
  refine Draw.take_w (i := 4) (v := ?vv66) rfl (by kernel_rfl) (by kernel_rfl) (by kernel_rfl) (fun _ _ _ h => h) (by rfl) ?hy66 (by assumption) ?rest66
  case hy66 => ((intro w hSw); (try dsimp only at hSw); go_simp; (try with_reducible rfl))
  (try simp only [Act.put, List.setIfInBounds_toArray, List.set_cons_zero, List.set_cons_succ])
  refine Draw.take_w (i := 5) (v := ?vv67) rfl (by kernel_rfl) (by kernel_rfl) (by kernel_rfl) (fun _ _ _ h => h) (by rfl) ?hy67 (by assumption) ?rest67
  case hy67 => ((intro w hSw); (try dsimp only at hSw); go_simp; (try with_reducible rfl))
  (try simp only [Act.put, List.setIfInBounds_toArray, List.set_cons_zero, List.set_cons_succ])
  refine Draw.take_w (i := 6) (v := ?vv68) rfl (by kernel_rfl) (by kernel_rfl) (by kernel_rfl) (fun _ _ _ h => h) (by rfl) ?hy68 (by assumption) ?rest68
  case hy68 => ((intro w hSw); (try dsimp only at hSw); go_simp; (try with_reducible rfl))
  (try simp only [Act.put, List.setIfInBounds_toArray, List.set_cons_zero, List.set_cons_succ])
  refine Draw.take_w (i := 7) (v := ?vv69) rfl (by kernel_rfl) (by kernel_rfl) (by kernel_rfl) (fun _ _ _ h => h) (by rfl) ?hy69 (by assumption) ?rest69
  case hy69 => ((intro w hSw); (try dsimp only at hSw); go_simp; (try with_reducible rfl))
  (try simp only [Act.put, List.setIfInBounds_toArray, List.set_cons_zero, List.set_cons_succ])
  refine Draw.take_w (i := 8) (v := ?vv70) rfl (by kernel_rfl) (by kernel_rfl) (by kernel_rfl) (fun _ _ _ h => h) (by rfl) ?hy70 (by assumption) ?rest70
  case hy70 => ((intro w hSw); (try dsimp only at hSw); go_simp; (try with_reducible rfl))
  (try simp only [Act.put, List.setIfInBounds_toArray, List.set_cons_zero, List.set_cons_succ])
  refine Draw.call_d (i := 9) rfl (by kernel_rfl) (by rfl) (fun K hK => ?_)
  go_simp
  refine (HG.out _).mono ?_
  rintro e w1 ⟨rfl, b1⟩
  replace HR := Lib.hid (at_below HR.out b1)
  replace HC := Lib.hid (chg_below HC.out b1)
  clear b1
  refine hK.out _ _ ?_ (fun hHeld => ?_)
  · (try dsimp only)
    exact ⟨(at3 HR.out).1, (at3 HR.out).2.1, (at3 HR.out).2.2.1⟩
  clear hK K
  (try simp only [Act.put, List.setIfInBounds_toArray, List.set_cons_zero, List.set_cons_succ])
  refine Draw.take_w (i := 10) (v := ?vv71) rfl (by kernel_rfl) (by kernel_rfl) (by kernel_rfl) (fun _ _ _ h => h) (by rfl) ?hy71 (by assumption) ?rest71
  case hy71 => ((intro w hSw); (try dsimp only at hSw); go_simp; (try with_reducible rfl))
  (try simp only [Act.put, List.setIfInBounds_toArray, List.set_cons_zero, List.set_cons_succ])
  refine Draw.take_w (i := 11) (v := ?vv72) rfl (by kernel_rfl) (by kernel_rfl) (by kernel_rfl) (fun _ _ _ h => h) (by rfl) ?hy72 (by assumption) ?rest72
  case hy72 => ((intro w hSw); (try dsimp only at hSw); go_simp; (try with_reducible rfl))
  (try simp only [Act.put, List.setIfInBounds_toArray, List.set_cons_zero, List.set_cons_succ])
  refine Draw.take_w (i := 12) (v := ?vv73) rfl (by kernel_rfl) (by kernel_rfl) (by kernel_rfl) (fun _ _ _ h => h) (by rfl) ?hy73 (by assumption) ?rest73
  case hy73 => ((intro w hSw); (try dsimp only at hSw); go_simp; (try with_reducible rfl))
  (try simp only [Act.put, List.setIfInBounds_toArray, List.set_cons_zero, List.set_cons_succ])
  refine Draw.take_w (i := 13) (v := ?vv74) rfl (by kernel_rfl) (by kernel_rfl) (by kernel_rfl) (fun _ _ _ h => h) (by rfl) ?hy74 (by assumption) ?rest74
  case hy74 => ((intro w hSw); (try dsimp only at hSw); go_simp; (try with_reducible rfl))
  (try simp only [Act.put, List.setIfInBounds_toArray, List.set_cons_zero, List.set_cons_succ])
  refine Draw.take_w (i := 14) (v := ?vv75) rfl (by kernel_rfl) (by kernel_rfl) (by kernel_rfl) (fun _ _ _ h => h) (by rfl) ?hy75 (by assumption) ?rest75
  case hy75 => ((intro w hSw); (try dsimp only at hSw); go_simp; (try with_reducible rfl))
  (try simp only [Act.put, List.setIfInBounds_toArray, List.set_cons_zero, List.set_cons_succ])
  refine Draw.take_w (i := 15) (v := ?vv76) rfl (by kernel_rfl) (by kernel_rfl) (by kernel_rfl) (fun _ _ _ h => h) (by rfl) ?hy76 (by assumption) ?rest76
  case hy76 => ((intro w hSw); (try dsimp only at hSw); go_simp; (try with_reducible rfl))
  (try simp only [Act.put, List.setIfInBounds_toArray, List.set_cons_zero, List.set_cons_succ])
  refine Draw.take_w (i := 16) (v := ?vv77) rfl (by kernel_rfl) (by kernel_rfl) (by kernel_rfl) (fun _ _ _ h => h) (by rfl) ?hy77 (by assumption) ?rest77
  case hy77 => ((intro w hSw); (try dsimp only at hSw); go_simp; (try with_reducible rfl))
  (try simp only [Act.put, List.setIfInBounds_toArray, List.set_cons_zero, List.set_cons_succ])
  refine wpAnyH_done (by kernel_rfl) ?_ _
  obtain ⟨x0, x1, x2, z0, z1, z2⟩ := at3 HR.out
  go_wp2_with (fail)
  go_ret
  exact ⟨rfl, at_set' (i := 1) (v := .int .i64 (p)) HR.out rfl, chg_set HC.out rfl⟩
theorem text_rd (b : Nat) (s : ByteArray) (a er m : Int) (w : World) (h : At w b (rdr s a er) 168) (hs : s.size ≤ maxLen) (hm : m ≤ 9223372036854775807) :
    Calls Try.prog 84 #[.pointer (some ⟨b, 0, none⟩), .int .i64 m] w fun e w' => e = .returned (.string (rdT s a er m).1) ∧ At w' b (rdr s (rdT s a er m).2.1 (rdT s a er m).2.2) 168 ∧ Chg (fun x => x = b) w w' := by
  unfold rdT
  by_cases h0 : er = 0
  · subst h0
    rw [if_neg (by simp)]
    obtain ⟨t, p, er, hg⟩ : ∃ t p er, textS s a m = (t, p, er) := ⟨_, _, _, rfl⟩
    rw [hg]
    by_cases h1 : er = 0
    · rw [if_neg (by simpa using h1)]; exact text_2 b s a m w h hs hm t p er hg h1
    · rw [if_pos h1]; exact text_1 b s a m w h hs hm t p er hg h1
  · rw [if_pos h0]; exact text_err b s a er m w h h0
end Go.Proofs.Ytdjompbhlkgmbaa.Rec
end
section
/- The program's Get of records (own text; printed by wip/tools/gen_recget.py, a program of this session). -/
namespace Go.Proofs.Ytdjompbhlkgmbaa.Rec
open Go.Proofs.Ytdjompbhlkgmbaa Go.RowKit Go.Proofs.Ytdjompbhlkgmbaa.Mem
open Go.Proofs.Ytdjompbhlkgmbaa.Num (getS textS)
set_option linter.unusedVariables false
set_option linter.unusedSimpArgs false
theorem rdN_range (s : ByteArray) (a e m : Int) (hm : 0 ≤ m) : 0 ≤ (rdN s a e m).1 ∧ (rdN s a e m).1 ≤ m := by
  have := Num.getS_range s a
  unfold rdN
  (repeat' split) <;> simp only [] <;> omega
theorem rdT_size (s : ByteArray) (a e m : Int) : (rdT s a e m).1.size ≤ s.size := by
  unfold rdT
  split
  · exact Nat.zero_le _
  split
  · exact Nat.zero_le _
  · show (textS s a m).1.size ≤ s.size
    rw [Num.textS_of]
    unfold Num.textOf
    (repeat' split) <;> first | exact Nat.zero_le _ | (rw [ByteArray.size_extract]; omega)
def recV (k : ByteArray) (p l n d f x : Int) (b : ByteArray) (at' e : Int) : Value := .tuple #[.agg #[.string k, .int .u64 p, .int .u32 l, .int .u8 n, .int .u8 d, .int .u32 f, .int .u64 x, .string b], .int .i64 at', .int .i64 e]
set_option maxRecDepth 100000 in
set_option maxHeartbeats 3200000 in
theorem get_mO (s : ByteArray) (a : Int) (w : World) (hs : s.size ≤ 900000) (k : ByteArray) (p l n d : Int) (a1 e1 a2 e2 a3 e3 a4 e4 a5 e5 : Int) (g0 : rdT s a 0 250 = (k, a1, e1)) (g1 : rdN s a1 e1 18446744073709551615 = (p, a2, e2)) (g2 : rdN s a2 e2 4294967295 = (l, a3, e3)) (g3 : rdN s a3 e3 255 = (n, a4, e4)) (g4 : rdN s a4 e4 255 = (d, a5, e5)) (hd : ¬ d = 3) (he : e5 = 0) (hm : mayR k p n d 0 0 ⟨#[]⟩ = true) :
    Calls Try.prog 75 #[.string s, .int .i64 a] w fun e w' => e = .returned (recV k p l n d 0 0 ⟨#[]⟩ a5 0) ∧ Below w.heap.size w w' := by
  have hsm : s.size ≤ maxLen := by unfold maxLen; omega
  have N0 := Lib.hid (fun (b : Nat) (W : World) (h : At W b (rdr s a 0) 168) => text_rd b s a 0 250 W h hsm (by decide))
  have kz := rdT_size s a 0 250
  rw [g0] at N0 kz
  have N1 := Lib.hid (fun (b : Nat) (W : World) (h : At W b (rdr s a1 e1) 168) => number_any b s a1 e1 18446744073709551615 W h hsm)
  have r1 := rdN_range s a1 e1 18446744073709551615 (by decide)
  rw [g1] at N1 r1
  have N2 := Lib.hid (fun (b : Nat) (W : World) (h : At W b (rdr s a2 e2) 168) => number_any b s a2 e2 4294967295 W h hsm)
  have r2 := rdN_range s a2 e2 4294967295 (by decide)
  rw [g2] at N2 r2
  have N3 := Lib.hid (fun (b : Nat) (W : World) (h : At W b (rdr s a3 e3) 168) => number_any b s a3 e3 255 W h hsm)
  have r3 := rdN_range s a3 e3 255 (by decide)
  rw [g3] at N3 r3
  have N4 := Lib.hid (fun (b : Nat) (W : World) (h : At W b (rdr s a4 e4) 168) => number_any b s a4 e4 255 W h hsm)
  have r4 := rdN_range s a4 e4 255 (by decide)
  rw [g4] at N4 r4
  simp only [] at kz r1 r2 r3 r4
  obtain ⟨r10, r11⟩ := r1
  obtain ⟨r20, r21⟩ := r2
  obtain ⟨r30, r31⟩ := r3
  obtain ⟨r40, r41⟩ := r4
  have cd : (d == 3) = false := beq_eq_false_iff_ne.2 hd
  have ce : (e5 != 0) = false := by rw [he]; rfl
  have hy := fun W => may_any k p l n d 0 0 ⟨#[]⟩ W (by omega)
  rw [hm] at hy
  have HY := Lib.hid hy
  clear hy hm
  clear g0 g1 g2 g3 g4 he hd
  go_enter Try.func75, Try.ntmps75
  go_wp2_with (fail)
  have H4 := Lib.hid (at_alloc (o := .cells (rdr s a 0) 168) (at_new w #[.string ⟨#[]⟩, .int .u64 0, .int .u32 0, .int .u8 0, .int .u8 0, .int .u32 0, .int .u64 0, .string ⟨#[]⟩] 54))
  have HX := Lib.hid (at_new (w.alloc (.cells #[.string ⟨#[]⟩, .int .u64 0, .int .u32 0, .int .u8 0, .int .u8 0, .int .u32 0, .int .u64 0, .string ⟨#[]⟩] 54)) (rdr s a 0) 168)
  have HB := Lib.hid (below_al (o := .cells (rdr s a 0) 168) (below_al (o := .cells #[.string ⟨#[]⟩, .int .u64 0, .int .u32 0, .int .u8 0, .int .u8 0, .int .u32 0, .int .u64 0, .string ⟨#[]⟩] 54) (Below.refl w.heap.size w)))
  rw [World.size_alloc] at HX
  have nx : w.heap.size ≠ w.heap.size + 1 := by omega
  refine (N0.out _ _ HX.out).mono ?_
  rintro e w1 ⟨rfl, hx, c1⟩
  have HX1 := Lib.hid hx
  replace H4 := Lib.hid (at_chg H4.out c1 nx)
  replace HB := Lib.hid (below_chg HB.out c1 (fun i h => by omega))
  have lx : w.heap.size + 1 < w1.heap.size := At.lt hx
  clear hx c1 HX
  have HX := HX1
  clear HX1
  (try simp only [] at HX)
  go_wp2_with (fail)
  have HR := Lib.hid (at_new w1 #[.string k, .int .u64 0, .int .u32 0, .int .u8 0, .int .u8 0, .int .u32 0, .int .u64 0, .string ⟨#[]⟩] 54)
  replace H4 := Lib.hid (at_alloc (o := .cells #[.string k, .int .u64 0, .int .u32 0, .int .u8 0, .int .u8 0, .int .u32 0, .int .u64 0, .string ⟨#[]⟩] 54) H4.out)
  replace HX := Lib.hid (at_alloc (o := .cells #[.string k, .int .u64 0, .int .u32 0, .int .u8 0, .int .u8 0, .int .u32 0, .int .u64 0, .string ⟨#[]⟩] 54) HX.out)
  replace HB := Lib.hid (below_al (o := .cells #[.string k, .int .u64 0, .int .u32 0, .int .u8 0, .int .u8 0, .int .u32 0, .int .u64 0, .string ⟨#[]⟩] 54) HB.out)
  generalize w1.alloc (.cells #[.string k, .int .u64 0, .int .u32 0, .int .u8 0, .int .u8 0, .int .u32 0, .int .u64 0, .string ⟨#[]⟩] 54) = v0 at *
  generalize w1.heap.size = r at *
  have rx : r ≠ w.heap.size + 1 := by omega
  have r4 : w.heap.size ≠ r := by omega
  have rw' : w.heap.size ≤ r := by omega
  refine (N1.out _ _ HX.out).mono ?_
  rintro e u1 ⟨rfl, hx, c1⟩
  replace HX := Lib.hid hx
  replace H4 := Lib.hid (at_chg H4.out c1 nx)
  replace HR := Lib.hid (at_chg HR.out c1 rx)
  replace HB := Lib.hid (below_chg HB.out c1 (fun i h => by omega))
  clear hx c1
  (try simp only [] at HX)
  obtain ⟨x0, x1, x2, x3, x4, x5, x6, x7, z0, z1, z2, z3, z4, z5, z6, z7⟩ := at8 HR.out
  go_wp2_with (fail)
  clear x0 x1 x2 x3 x4 x5 x6 x7 z0 z1 z2 z3 z4 z5 z6 z7
  replace HX := Lib.hid (at_set_ne (b' := r) (i := 1) (v := .int .u64 p) HX.out (fun h => rx h.symm))
  replace H4 := Lib.hid (at_set_ne (b' := r) (i := 1) (v := .int .u64 p) H4.out r4)
  replace HR : Hid (At (u1.setCell ⟨r, 1, none⟩ (.int .u64 p)) r #[.string k, .int .u64 p, .int .u32 0, .int .u8 0, .int .u8 0, .int .u32 0, .int .u64 0, .string ⟨#[]⟩] 54) := Lib.hid (at_set' HR.out rfl)
  replace HB := Lib.hid (below_new (b := r) (i := 1) (v := .int .u64 p) HB.out rw')
  generalize u1.setCell ⟨r, 1, none⟩ (.int .u64 p) = v1 at *
  refine (N2.out _ _ HX.out).mono ?_
  rintro e u2 ⟨rfl, hx, c1⟩
  replace HX := Lib.hid hx
  replace H4 := Lib.hid (at_chg H4.out c1 nx)
  replace HR := Lib.hid (at_chg HR.out c1 rx)
  replace HB := Lib.hid (below_chg HB.out c1 (fun i h => by omega))
  clear hx c1
  (try simp only [] at HX)
  obtain ⟨x0, x1, x2, x3, x4, x5, x6, x7, z0, z1, z2, z3, z4, z5, z6, z7⟩ := at8 HR.out
  go_wp2_with (fail)
  clear x0 x1 x2 x3 x4 x5 x6 x7 z0 z1 z2 z3 z4 z5 z6 z7
  replace HX := Lib.hid (at_set_ne (b' := r) (i := 2) (v := .int .u32 l) HX.out (fun h => rx h.symm))
  replace H4 := Lib.hid (at_set_ne (b' := r) (i := 2) (v := .int .u32 l) H4.out r4)
  replace HR : Hid (At (u2.setCell ⟨r, 2, none⟩ (.int .u32 l)) r #[.string k, .int .u64 p, .int .u32 l, .int .u8 0, .int .u8 0, .int .u32 0, .int .u64 0, .string ⟨#[]⟩] 54) := Lib.hid (at_set' HR.out rfl)
  replace HB := Lib.hid (below_new (b := r) (i := 2) (v := .int .u32 l) HB.out rw')
  generalize u2.setCell ⟨r, 2, none⟩ (.int .u32 l) = v2 at *
  refine (N3.out _ _ HX.out).mono ?_
  rintro e u3 ⟨rfl, hx, c1⟩
  replace HX := Lib.hid hx
  replace H4 := Lib.hid (at_chg H4.out c1 nx)
  replace HR := Lib.hid (at_chg HR.out c1 rx)
  replace HB := Lib.hid (below_chg HB.out c1 (fun i h => by omega))
  clear hx c1
  (try simp only [] at HX)
  obtain ⟨x0, x1, x2, x3, x4, x5, x6, x7, z0, z1, z2, z3, z4, z5, z6, z7⟩ := at8 HR.out
  go_wp2_with (fail)
  clear x0 x1 x2 x3 x4 x5 x6 x7 z0 z1 z2 z3 z4 z5 z6 z7
  replace HX := Lib.hid (at_set_ne (b' := r) (i := 3) (v := .int .u8 n) HX.out (fun h => rx h.symm))
  replace H4 := Lib.hid (at_set_ne (b' := r) (i := 3) (v := .int .u8 n) H4.out r4)
  replace HR : Hid (At (u3.setCell ⟨r, 3, none⟩ (.int .u8 n)) r #[.string k, .int .u64 p, .int .u32 l, .int .u8 n, .int .u8 0, .int .u32 0, .int .u64 0, .string ⟨#[]⟩] 54) := Lib.hid (at_set' HR.out rfl)
  replace HB := Lib.hid (below_new (b := r) (i := 3) (v := .int .u8 n) HB.out rw')
  generalize u3.setCell ⟨r, 3, none⟩ (.int .u8 n) = v3 at *
  refine (N4.out _ _ HX.out).mono ?_
  rintro e u4 ⟨rfl, hx, c1⟩
  replace HX := Lib.hid hx
  replace H4 := Lib.hid (at_chg H4.out c1 nx)
  replace HR := Lib.hid (at_chg HR.out c1 rx)
  replace HB := Lib.hid (below_chg HB.out c1 (fun i h => by omega))
  clear hx c1
  (try simp only [] at HX)
  obtain ⟨x0, x1, x2, x3, x4, x5, x6, x7, z0, z1, z2, z3, z4, z5, z6, z7⟩ := at8 HR.out
  obtain ⟨q0, q1, q2, -⟩ := at3 (show At u4 (w.heap.size + 1) #[.string s, .int .i64 a5, .int .i64 e5] 168 from HX.out)
  go_wp2_with (fail)
  clear x0 x1 x2 x3 x4 x5 x6 x7 z0 z1 z2 z3 z4 z5 z6 z7
  replace HX := Lib.hid (at_set_ne (b' := r) (i := 4) (v := .int .u8 d) HX.out (fun h => rx h.symm))
  replace H4 := Lib.hid (at_set_ne (b' := r) (i := 4) (v := .int .u8 d) H4.out r4)
  replace HR : Hid (At (u4.setCell ⟨r, 4, none⟩ (.int .u8 d)) r #[.string k, .int .u64 p, .int .u32 l, .int .u8 n, .int .u8 d, .int .u32 0, .int .u64 0, .string ⟨#[]⟩] 54) := Lib.hid (at_set' HR.out rfl)
  replace HB := Lib.hid (below_new (b := r) (i := 4) (v := .int .u8 d) HB.out rw')
  generalize u4.setCell ⟨r, 4, none⟩ (.int .u8 d) = v4 at *
  clear q0 q1 q2
  refine (HY.out _).mono ?_
  rintro e w9 ⟨rfl, b9⟩
  replace HX := Lib.hid (at_below HX.out b9)
  replace H4 := Lib.hid (at_below H4.out b9)
  replace HR := Lib.hid (at_below HR.out b9)
  replace HB := Lib.hid (below_on HB.out b9)
  clear b9
  obtain ⟨q0, q1, q2, -⟩ := at3 (show At w9 (w.heap.size + 1) #[.string s, .int .i64 a5, .int .i64 e5] 168 from HX.out)
  obtain ⟨y0, y1, y2, y3, y4, y5, y6, y7, w0_, w1_, w2_, w3_, w4_, w5_, w6_, w7_⟩ := at8 H4.out
  obtain ⟨x0, x1, x2, x3, x4, x5, x6, x7, z0, z1, z2, z3, z4, z5, z6, z7⟩ := at8 HR.out
  go_wp2_with (fail)
  go_region
  go_wp2_with (fail)
  clear x0 x1 x2 x3 x4 x5 x6 x7 z0 z1 z2 z3 z4 z5 z6 z7
  clear q0 q1 q2 y0 y1 y2 y3 y4 y5 y6 y7 w0_ w1_ w2_ w3_ w4_ w5_ w6_ w7_
  have HS := Lib.hid (at_drew (at_set8 (v0 := .string k) (v1 := .int .u64 p) (v2 := .int .u32 l) (v3 := .int .u8 n) (v4 := .int .u8 d) (v5 := .int .u32 0) (v6 := .int .u64 0) (v7 := .string ⟨#[]⟩) H4.out))
  have HT := Lib.hid (Below.drew (below_set8 (v0 := .string k) (v1 := .int .u64 p) (v2 := .int .u32 l) (v3 := .int .u8 n) (v4 := .int .u8 d) (v5 := .int .u32 0) (v6 := .int .u64 0) (v7 := .string ⟨#[]⟩) HB.out (Nat.le_refl _)))
  clear HX HR HB H4
  generalize ((((((((w9.setCell ⟨w.heap.size, 0, none⟩ (.string k)).setCell ⟨w.heap.size, 1, none⟩ (.int .u64 p)).setCell ⟨w.heap.size, 2, none⟩ (.int .u32 l)).setCell ⟨w.heap.size, 3, none⟩ (.int .u8 n)).setCell ⟨w.heap.size, 4, none⟩ (.int .u8 d)).setCell ⟨w.heap.size, 5, none⟩ (.int .u32 0)).setCell ⟨w.heap.size, 6, none⟩ (.int .u64 0)).setCell ⟨w.heap.size, 7, none⟩ (.string ⟨#[]⟩)).drew = wz at *
  obtain ⟨zz0, zz1, zz2, zz3, zz4, zz5, zz6, zz7, -⟩ := at8 HS.out
  refine bodyPost_ret (by simp [results, Try.results75, go_sem, zz0, zz1, zz2, zz3, zz4, zz5, zz6, zz7]; try rfl) rfl ?_
  exact ⟨rfl, HT.out⟩
set_option maxRecDepth 100000 in
set_option maxHeartbeats 3200000 in
theorem get_vO (s : ByteArray) (a : Int) (w : World) (hs : s.size ≤ 900000) (k : ByteArray) (p l n d f x : Int) (b : ByteArray) (a1 e1 a2 e2 a3 e3 a4 e4 a5 e5 a6 e6 a7 e7 a8 e8 : Int) (g0 : rdT s a 0 250 = (k, a1, e1)) (g1 : rdN s a1 e1 18446744073709551615 = (p, a2, e2)) (g2 : rdN s a2 e2 4294967295 = (l, a3, e3)) (g3 : rdN s a3 e3 255 = (n, a4, e4)) (g4 : rdN s a4 e4 255 = (d, a5, e5)) (g5 : rdN s a5 e5 4294967295 = (f, a6, e6)) (g6 : rdN s a6 e6 18446744073709551615 = (x, a7, e7)) (g7 : rdT s a7 e7 1024 = (b, a8, e8)) (hd : d = 3) (he : e8 = 0) (hm : mayR k p n d f x b = true) :
    Calls Try.prog 75 #[.string s, .int .i64 a] w fun e w' => e = .returned (recV k p l n d f x b a8 0) ∧ Below w.heap.size w w' := by
  have hsm : s.size ≤ maxLen := by unfold maxLen; omega
  have N0 := Lib.hid (fun (b : Nat) (W : World) (h : At W b (rdr s a 0) 168) => text_rd b s a 0 250 W h hsm (by decide))
  have kz := rdT_size s a 0 250
  rw [g0] at N0 kz
  have N1 := Lib.hid (fun (b : Nat) (W : World) (h : At W b (rdr s a1 e1) 168) => number_any b s a1 e1 18446744073709551615 W h hsm)
  have r1 := rdN_range s a1 e1 18446744073709551615 (by decide)
  rw [g1] at N1 r1
  have N2 := Lib.hid (fun (b : Nat) (W : World) (h : At W b (rdr s a2 e2) 168) => number_any b s a2 e2 4294967295 W h hsm)
  have r2 := rdN_range s a2 e2 4294967295 (by decide)
  rw [g2] at N2 r2
  have N3 := Lib.hid (fun (b : Nat) (W : World) (h : At W b (rdr s a3 e3) 168) => number_any b s a3 e3 255 W h hsm)
  have r3 := rdN_range s a3 e3 255 (by decide)
  rw [g3] at N3 r3
  have N4 := Lib.hid (fun (b : Nat) (W : World) (h : At W b (rdr s a4 e4) 168) => number_any b s a4 e4 255 W h hsm)
  have r4 := rdN_range s a4 e4 255 (by decide)
  rw [g4] at N4 r4
  have N5 := Lib.hid (fun (b : Nat) (W : World) (h : At W b (rdr s a5 e5) 168) => number_any b s a5 e5 4294967295 W h hsm)
  have r5 := rdN_range s a5 e5 4294967295 (by decide)
  rw [g5] at N5 r5
  have N6 := Lib.hid (fun (b : Nat) (W : World) (h : At W b (rdr s a6 e6) 168) => number_any b s a6 e6 18446744073709551615 W h hsm)
  have r6 := rdN_range s a6 e6 18446744073709551615 (by decide)
  rw [g6] at N6 r6
  have N7 := Lib.hid (fun (b : Nat) (W : World) (h : At W b (rdr s a7 e7) 168) => text_rd b s a7 e7 1024 W h hsm (by decide))
  rw [g7] at N7
  simp only [] at kz r1 r2 r3 r4 r5 r6
  obtain ⟨r10, r11⟩ := r1
  obtain ⟨r20, r21⟩ := r2
  obtain ⟨r30, r31⟩ := r3
  obtain ⟨r40, r41⟩ := r4
  obtain ⟨r50, r51⟩ := r5
  obtain ⟨r60, r61⟩ := r6
  have cd : (d == 3) = true := beq_iff_eq.2 hd
  have ce : (e8 != 0) = false := by rw [he]; rfl
  have hy := fun W => may_any k p l n d f x b W (by omega)
  rw [hm] at hy
  have HY := Lib.hid hy
  clear hy hm
  clear g0 g1 g2 g3 g4 g5 g6 g7 he hd
  go_enter Try.func75, Try.ntmps75
  go_wp2_with (fail)
  have H4 := Lib.hid (at_alloc (o := .cells (rdr s a 0) 168) (at_new w #[.string ⟨#[]⟩, .int .u64 0, .int .u32 0, .int .u8 0, .int .u8 0, .int .u32 0, .int .u64 0, .string ⟨#[]⟩] 54))
  have HX := Lib.hid (at_new (w.alloc (.cells #[.string ⟨#[]⟩, .int .u64 0, .int .u32 0, .int .u8 0, .int .u8 0, .int .u32 0, .int .u64 0, .string ⟨#[]⟩] 54)) (rdr s a 0) 168)
  have HB := Lib.hid (below_al (o := .cells (rdr s a 0) 168) (below_al (o := .cells #[.string ⟨#[]⟩, .int .u64 0, .int .u32 0, .int .u8 0, .int .u8 0, .int .u32 0, .int .u64 0, .string ⟨#[]⟩] 54) (Below.refl w.heap.size w)))
  rw [World.size_alloc] at HX
  have nx : w.heap.size ≠ w.heap.size + 1 := by omega
  refine (N0.out _ _ HX.out).mono ?_
  rintro e w1 ⟨rfl, hx, c1⟩
  have HX1 := Lib.hid hx
  replace H4 := Lib.hid (at_chg H4.out c1 nx)
  replace HB := Lib.hid (below_chg HB.out c1 (fun i h => by omega))
  have lx : w.heap.size + 1 < w1.heap.size := At.lt hx
  clear hx c1 HX
  have HX := HX1
  clear HX1
  (try simp only [] at HX)
  go_wp2_with (fail)
  have HR := Lib.hid (at_new w1 #[.string k, .int .u64 0, .int .u32 0, .int .u8 0, .int .u8 0, .int .u32 0, .int .u64 0, .string ⟨#[]⟩] 54)
  replace H4 := Lib.hid (at_alloc (o := .cells #[.string k, .int .u64 0, .int .u32 0, .int .u8 0, .int .u8 0, .int .u32 0, .int .u64 0, .string ⟨#[]⟩] 54) H4.out)
  replace HX := Lib.hid (at_alloc (o := .cells #[.string k, .int .u64 0, .int .u32 0, .int .u8 0, .int .u8 0, .int .u32 0, .int .u64 0, .string ⟨#[]⟩] 54) HX.out)
  replace HB := Lib.hid (below_al (o := .cells #[.string k, .int .u64 0, .int .u32 0, .int .u8 0, .int .u8 0, .int .u32 0, .int .u64 0, .string ⟨#[]⟩] 54) HB.out)
  generalize w1.alloc (.cells #[.string k, .int .u64 0, .int .u32 0, .int .u8 0, .int .u8 0, .int .u32 0, .int .u64 0, .string ⟨#[]⟩] 54) = v0 at *
  generalize w1.heap.size = r at *
  have rx : r ≠ w.heap.size + 1 := by omega
  have r4 : w.heap.size ≠ r := by omega
  have rw' : w.heap.size ≤ r := by omega
  refine (N1.out _ _ HX.out).mono ?_
  rintro e u1 ⟨rfl, hx, c1⟩
  replace HX := Lib.hid hx
  replace H4 := Lib.hid (at_chg H4.out c1 nx)
  replace HR := Lib.hid (at_chg HR.out c1 rx)
  replace HB := Lib.hid (below_chg HB.out c1 (fun i h => by omega))
  clear hx c1
  (try simp only [] at HX)
  obtain ⟨x0, x1, x2, x3, x4, x5, x6, x7, z0, z1, z2, z3, z4, z5, z6, z7⟩ := at8 HR.out
  go_wp2_with (fail)
  clear x0 x1 x2 x3 x4 x5 x6 x7 z0 z1 z2 z3 z4 z5 z6 z7
  replace HX := Lib.hid (at_set_ne (b' := r) (i := 1) (v := .int .u64 p) HX.out (fun h => rx h.symm))
  replace H4 := Lib.hid (at_set_ne (b' := r) (i := 1) (v := .int .u64 p) H4.out r4)
  replace HR : Hid (At (u1.setCell ⟨r, 1, none⟩ (.int .u64 p)) r #[.string k, .int .u64 p, .int .u32 0, .int .u8 0, .int .u8 0, .int .u32 0, .int .u64 0, .string ⟨#[]⟩] 54) := Lib.hid (at_set' HR.out rfl)
  replace HB := Lib.hid (below_new (b := r) (i := 1) (v := .int .u64 p) HB.out rw')
  generalize u1.setCell ⟨r, 1, none⟩ (.int .u64 p) = v1 at *
  refine (N2.out _ _ HX.out).mono ?_
  rintro e u2 ⟨rfl, hx, c1⟩
  replace HX := Lib.hid hx
  replace H4 := Lib.hid (at_chg H4.out c1 nx)
  replace HR := Lib.hid (at_chg HR.out c1 rx)
  replace HB := Lib.hid (below_chg HB.out c1 (fun i h => by omega))
  clear hx c1
  (try simp only [] at HX)
  obtain ⟨x0, x1, x2, x3, x4, x5, x6, x7, z0, z1, z2, z3, z4, z5, z6, z7⟩ := at8 HR.out
  go_wp2_with (fail)
  clear x0 x1 x2 x3 x4 x5 x6 x7 z0 z1 z2 z3 z4 z5 z6 z7
  replace HX := Lib.hid (at_set_ne (b' := r) (i := 2) (v := .int .u32 l) HX.out (fun h => rx h.symm))
  replace H4 := Lib.hid (at_set_ne (b' := r) (i := 2) (v := .int .u32 l) H4.out r4)
  replace HR : Hid (At (u2.setCell ⟨r, 2, none⟩ (.int .u32 l)) r #[.string k, .int .u64 p, .int .u32 l, .int .u8 0, .int .u8 0, .int .u32 0, .int .u64 0, .string ⟨#[]⟩] 54) := Lib.hid (at_set' HR.out rfl)
  replace HB := Lib.hid (below_new (b := r) (i := 2) (v := .int .u32 l) HB.out rw')
  generalize u2.setCell ⟨r, 2, none⟩ (.int .u32 l) = v2 at *
  refine (N3.out _ _ HX.out).mono ?_
  rintro e u3 ⟨rfl, hx, c1⟩
  replace HX := Lib.hid hx
  replace H4 := Lib.hid (at_chg H4.out c1 nx)
  replace HR := Lib.hid (at_chg HR.out c1 rx)
  replace HB := Lib.hid (below_chg HB.out c1 (fun i h => by omega))
  clear hx c1
  (try simp only [] at HX)
  obtain ⟨x0, x1, x2, x3, x4, x5, x6, x7, z0, z1, z2, z3, z4, z5, z6, z7⟩ := at8 HR.out
  go_wp2_with (fail)
  clear x0 x1 x2 x3 x4 x5 x6 x7 z0 z1 z2 z3 z4 z5 z6 z7
  replace HX := Lib.hid (at_set_ne (b' := r) (i := 3) (v := .int .u8 n) HX.out (fun h => rx h.symm))
  replace H4 := Lib.hid (at_set_ne (b' := r) (i := 3) (v := .int .u8 n) H4.out r4)
  replace HR : Hid (At (u3.setCell ⟨r, 3, none⟩ (.int .u8 n)) r #[.string k, .int .u64 p, .int .u32 l, .int .u8 n, .int .u8 0, .int .u32 0, .int .u64 0, .string ⟨#[]⟩] 54) := Lib.hid (at_set' HR.out rfl)
  replace HB := Lib.hid (below_new (b := r) (i := 3) (v := .int .u8 n) HB.out rw')
  generalize u3.setCell ⟨r, 3, none⟩ (.int .u8 n) = v3 at *
  refine (N4.out _ _ HX.out).mono ?_
  rintro e u4 ⟨rfl, hx, c1⟩
  replace HX := Lib.hid hx
  replace H4 := Lib.hid (at_chg H4.out c1 nx)
  replace HR := Lib.hid (at_chg HR.out c1 rx)
  replace HB := Lib.hid (below_chg HB.out c1 (fun i h => by omega))
  clear hx c1
  (try simp only [] at HX)
  obtain ⟨x0, x1, x2, x3, x4, x5, x6, x7, z0, z1, z2, z3, z4, z5, z6, z7⟩ := at8 HR.out
  go_wp2_with (fail)
  clear x0 x1 x2 x3 x4 x5 x6 x7 z0 z1 z2 z3 z4 z5 z6 z7
  replace HX := Lib.hid (at_set_ne (b' := r) (i := 4) (v := .int .u8 d) HX.out (fun h => rx h.symm))
  replace H4 := Lib.hid (at_set_ne (b' := r) (i := 4) (v := .int .u8 d) H4.out r4)
  replace HR : Hid (At (u4.setCell ⟨r, 4, none⟩ (.int .u8 d)) r #[.string k, .int .u64 p, .int .u32 l, .int .u8 n, .int .u8 d, .int .u32 0, .int .u64 0, .string ⟨#[]⟩] 54) := Lib.hid (at_set' HR.out rfl)
  replace HB := Lib.hid (below_new (b := r) (i := 4) (v := .int .u8 d) HB.out rw')
  generalize u4.setCell ⟨r, 4, none⟩ (.int .u8 d) = v4 at *
  refine (N5.out _ _ HX.out).mono ?_
  rintro e u5 ⟨rfl, hx, c1⟩
  replace HX := Lib.hid hx
  replace H4 := Lib.hid (at_chg H4.out c1 nx)
  replace HR := Lib.hid (at_chg HR.out c1 rx)
  replace HB := Lib.hid (below_chg HB.out c1 (fun i h => by omega))
  clear hx c1
  (try simp only [] at HX)
  obtain ⟨x0, x1, x2, x3, x4, x5, x6, x7, z0, z1, z2, z3, z4, z5, z6, z7⟩ := at8 HR.out
  go_wp2_with (fail)
  clear x0 x1 x2 x3 x4 x5 x6 x7 z0 z1 z2 z3 z4 z5 z6 z7
  replace HX := Lib.hid (at_set_ne (b' := r) (i := 5) (v := .int .u32 f) HX.out (fun h => rx h.symm))
  replace H4 := Lib.hid (at_set_ne (b' := r) (i := 5) (v := .int .u32 f) H4.out r4)
  replace HR : Hid (At (u5.setCell ⟨r, 5, none⟩ (.int .u32 f)) r #[.string k, .int .u64 p, .int .u32 l, .int .u8 n, .int .u8 d, .int .u32 f, .int .u64 0, .string ⟨#[]⟩] 54) := Lib.hid (at_set' HR.out rfl)
  replace HB := Lib.hid (below_new (b := r) (i := 5) (v := .int .u32 f) HB.out rw')
  generalize u5.setCell ⟨r, 5, none⟩ (.int .u32 f) = v5 at *
  refine (N6.out _ _ HX.out).mono ?_
  rintro e u6 ⟨rfl, hx, c1⟩
  replace HX := Lib.hid hx
  replace H4 := Lib.hid (at_chg H4.out c1 nx)
  replace HR := Lib.hid (at_chg HR.out c1 rx)
  replace HB := Lib.hid (below_chg HB.out c1 (fun i h => by omega))
  clear hx c1
  (try simp only [] at HX)
  obtain ⟨x0, x1, x2, x3, x4, x5, x6, x7, z0, z1, z2, z3, z4, z5, z6, z7⟩ := at8 HR.out
  go_wp2_with (fail)
  clear x0 x1 x2 x3 x4 x5 x6 x7 z0 z1 z2 z3 z4 z5 z6 z7
  replace HX := Lib.hid (at_set_ne (b' := r) (i := 6) (v := .int .u64 x) HX.out (fun h => rx h.symm))
  replace H4 := Lib.hid (at_set_ne (b' := r) (i := 6) (v := .int .u64 x) H4.out r4)
  replace HR : Hid (At (u6.setCell ⟨r, 6, none⟩ (.int .u64 x)) r #[.string k, .int .u64 p, .int .u32 l, .int .u8 n, .int .u8 d, .int .u32 f, .int .u64 x, .string ⟨#[]⟩] 54) := Lib.hid (at_set' HR.out rfl)
  replace HB := Lib.hid (below_new (b := r) (i := 6) (v := .int .u64 x) HB.out rw')
  generalize u6.setCell ⟨r, 6, none⟩ (.int .u64 x) = v6 at *
  refine (N7.out _ _ HX.out).mono ?_
  rintro e u7 ⟨rfl, hx, c1⟩
  replace HX := Lib.hid hx
  replace H4 := Lib.hid (at_chg H4.out c1 nx)
  replace HR := Lib.hid (at_chg HR.out c1 rx)
  replace HB := Lib.hid (below_chg HB.out c1 (fun i h => by omega))
  clear hx c1
  (try simp only [] at HX)
  obtain ⟨x0, x1, x2, x3, x4, x5, x6, x7, z0, z1, z2, z3, z4, z5, z6, z7⟩ := at8 HR.out
  obtain ⟨q0, q1, q2, -⟩ := at3 (show At u7 (w.heap.size + 1) #[.string s, .int .i64 a8, .int .i64 e8] 168 from HX.out)
  go_wp2_with (fail)
  clear x0 x1 x2 x3 x4 x5 x6 x7 z0 z1 z2 z3 z4 z5 z6 z7
  replace HX := Lib.hid (at_set_ne (b' := r) (i := 7) (v := .string b) HX.out (fun h => rx h.symm))
  replace H4 := Lib.hid (at_set_ne (b' := r) (i := 7) (v := .string b) H4.out r4)
  replace HR : Hid (At (u7.setCell ⟨r, 7, none⟩ (.string b)) r #[.string k, .int .u64 p, .int .u32 l, .int .u8 n, .int .u8 d, .int .u32 f, .int .u64 x, .string b] 54) := Lib.hid (at_set' HR.out rfl)
  replace HB := Lib.hid (below_new (b := r) (i := 7) (v := .string b) HB.out rw')
  generalize u7.setCell ⟨r, 7, none⟩ (.string b) = v7 at *
  clear q0 q1 q2
  refine (HY.out _).mono ?_
  rintro e w9 ⟨rfl, b9⟩
  replace HX := Lib.hid (at_below HX.out b9)
  replace H4 := Lib.hid (at_below H4.out b9)
  replace HR := Lib.hid (at_below HR.out b9)
  replace HB := Lib.hid (below_on HB.out b9)
  clear b9
  obtain ⟨q0, q1, q2, -⟩ := at3 (show At w9 (w.heap.size + 1) #[.string s, .int .i64 a8, .int .i64 e8] 168 from HX.out)
  obtain ⟨y0, y1, y2, y3, y4, y5, y6, y7, w0_, w1_, w2_, w3_, w4_, w5_, w6_, w7_⟩ := at8 H4.out
  obtain ⟨x0, x1, x2, x3, x4, x5, x6, x7, z0, z1, z2, z3, z4, z5, z6, z7⟩ := at8 HR.out
  go_wp2_with (fail)
  go_region
  go_wp2_with (fail)
  clear x0 x1 x2 x3 x4 x5 x6 x7 z0 z1 z2 z3 z4 z5 z6 z7
  clear q0 q1 q2 y0 y1 y2 y3 y4 y5 y6 y7 w0_ w1_ w2_ w3_ w4_ w5_ w6_ w7_
  have HS := Lib.hid (at_drew (at_set8 (v0 := .string k) (v1 := .int .u64 p) (v2 := .int .u32 l) (v3 := .int .u8 n) (v4 := .int .u8 d) (v5 := .int .u32 f) (v6 := .int .u64 x) (v7 := .string b) H4.out))
  have HT := Lib.hid (Below.drew (below_set8 (v0 := .string k) (v1 := .int .u64 p) (v2 := .int .u32 l) (v3 := .int .u8 n) (v4 := .int .u8 d) (v5 := .int .u32 f) (v6 := .int .u64 x) (v7 := .string b) HB.out (Nat.le_refl _)))
  clear HX HR HB H4
  generalize ((((((((w9.setCell ⟨w.heap.size, 0, none⟩ (.string k)).setCell ⟨w.heap.size, 1, none⟩ (.int .u64 p)).setCell ⟨w.heap.size, 2, none⟩ (.int .u32 l)).setCell ⟨w.heap.size, 3, none⟩ (.int .u8 n)).setCell ⟨w.heap.size, 4, none⟩ (.int .u8 d)).setCell ⟨w.heap.size, 5, none⟩ (.int .u32 f)).setCell ⟨w.heap.size, 6, none⟩ (.int .u64 x)).setCell ⟨w.heap.size, 7, none⟩ (.string b)).drew = wz at *
  obtain ⟨zz0, zz1, zz2, zz3, zz4, zz5, zz6, zz7, -⟩ := at8 HS.out
  refine bodyPost_ret (by simp [results, Try.results75, go_sem, zz0, zz1, zz2, zz3, zz4, zz5, zz6, zz7]; try rfl) rfl ?_
  exact ⟨rfl, HT.out⟩
end Go.Proofs.Ytdjompbhlkgmbaa.Rec
end
section
/- Plain laws of the number form: what was put is got; the bytes stand in order as the numbers do (own text). -/
namespace Go.Proofs.Ytdjompbhlkgmbaa.Num
open Go.RowKit
set_option linter.unusedVariables false
set_option linter.unusedSimpArgs false

theorem byt_data (s : ByteArray) (i : Int) : byt s i = ((s.data.toList[i.toNat]?.getD 0).toNat : Int) := by
  unfold byt
  split
  · rename_i h
    have h2 : i.toNat < s.data.toList.length := by rw [← Lib.size_eq]; exact h
    rw [List.getElem?_eq_getElem h2]
    rfl
  · rename_i h
    have h2 : s.data.toList.length ≤ i.toNat := by rw [← Lib.size_eq]; omega
    rw [List.getElem?_eq_none h2]
    rfl
theorem append_data (s t : ByteArray) : (s ++ t).data.toList = s.data.toList ++ t.data.toList := by
  simp
/-- The byte of a text that stands between two others. -/
theorem byt_mid (p t q : ByteArray) (i : Int) (h0 : 0 ≤ i) (h1 : i < t.size) : byt (p ++ t ++ q) (p.size + i) = byt t i := by
  rw [byt_data, byt_data, append_data, append_data]
  have e : ((p.size : Int) + i).toNat = p.data.toList.length + i.toNat := by rw [← Lib.size_eq]; omega
  have h2 : i.toNat < t.data.toList.length := by rw [← Lib.size_eq]; omega
  rw [e, List.append_assoc, List.getElem?_append_right (by omega), Nat.add_sub_cancel_left, List.getElem?_append_left h2]
theorem byt_nums (l : List Int) (h : ∀ x ∈ l, 0 ≤ x ∧ x < 256) (i : Int) : byt (strOfNums l) i = l[i.toNat]?.getD 0 := by
  rw [byt_data, strOfNums_data, List.getElem?_map]
  cases hx : l[i.toNat]? with
  | none => rfl
  | some x =>
    have := h x (List.mem_of_getElem? hx)
    simp only [Option.map_some, Option.getD_some]
    rw [UInt8.toNat_ofNat']
    omega
theorem bytesL_range {n : Int} (h0 : 0 ≤ n) (h1 : n < 4611686018427387904) : ∀ x ∈ bytesL n, 0 ≤ x ∧ x < 256 := by
  intro x hx
  by_cases c1 : n < 64
  · rw [bytesL_0 c1] at hx; simp only [List.mem_cons, List.not_mem_nil, or_false] at hx; omega
  by_cases c2 : n < 16384
  · rw [bytesL_1 (by omega) c2] at hx; simp only [List.mem_cons, List.not_mem_nil, or_false] at hx; omega
  by_cases c3 : n < 1073741824
  · rw [bytesL_2 (by omega) c3] at hx; simp only [List.mem_cons, List.not_mem_nil, or_false] at hx; omega
  · rw [bytesL_3 (by omega)] at hx; simp only [List.mem_cons, List.not_mem_nil, or_false] at hx; omega
theorem size_append3 (p t q : ByteArray) : (p ++ t ++ q).size = p.size + t.size + q.size := by simp [ByteArray.size_append]
/-- Wherever a number's bytes stand, they are read as it. -/
theorem get_put (n : Int) (p q : ByteArray) (h0 : 0 ≤ n) (h1 : n < 4611686018427387904) :
    getS (p ++ putB n ++ q) p.size = (n, (p.size : Int) + ((putB n).size : Int), 0) := by
  have hr := bytesL_range h0 h1
  have hb : ∀ i : Int, 0 ≤ i → i < (bytesL n).length → byt (p ++ putB n ++ q) (p.size + i) = (bytesL n)[i.toNat]?.getD 0 := by
    intro i hi hl
    rw [byt_mid _ _ _ _ hi (by rw [putB_size h1]; exact hl), putB_small h1, byt_nums _ hr]
  have hb0 := hb 0 (by omega) (by rw [bytesL_length]; (repeat' split) <;> decide)
  rw [Int.add_zero] at hb0
  have hsz := size_append3 p (putB n) q
  have hpz := putB_size h1
  unfold getS
  rw [if_neg (by rw [hsz]; omega), if_neg (by rw [hsz, hpz, bytesL_length]; (repeat' split) <;> omega)]
  by_cases c1 : n < 64
  · rw [bytesL_0 c1] at hb0 hb hpz
    have e1 : byt (p ++ putB n ++ q) p.size / 64 = 0 := by rw [hb0]; simp; omega
    have e2 : nval (p ++ putB n ++ q) p.size 0 = n := by simp only [nval]; rw [hb0]; simp; omega
    rw [e1, show wide 0 = 1 from rfl, show least 0 = 0 from rfl, if_neg (by rw [hsz, hpz]; simp; omega), show 1 - 1 = 0 from rfl, e2, whole_hi (by omega), hpz]; rfl
  by_cases c2 : n < 16384
  · rw [bytesL_1 (by omega) c2] at hb0 hb hpz
    have b1 := hb 1 (by omega) (by simp)
    simp at hb0 b1
    have e1 : byt (p ++ putB n ++ q) p.size / 64 = 1 := by rw [hb0]; omega
    have e2 : nval (p ++ putB n ++ q) p.size 1 = n := by simp only [nval]; rw [hb0]; simp; rw [b1]; omega
    rw [e1, show wide 1 = 2 from rfl, show least 1 = 64 from rfl, if_neg (by rw [hsz, hpz]; simp; omega), show 2 - 1 = 1 from rfl, e2, whole_hi (by omega), hpz]; rfl
  by_cases c3 : n < 1073741824
  · rw [bytesL_2 (by omega) c3] at hb0 hb hpz
    have b1 := hb 1 (by omega) (by simp)
    have b2 := hb 2 (by omega) (by simp)
    have b3 := hb 3 (by omega) (by simp)
    simp at hb0 b1 b2 b3
    have e1 : byt (p ++ putB n ++ q) p.size / 64 = 2 := by rw [hb0]; omega
    have e2 : nval (p ++ putB n ++ q) p.size 3 = n := by simp only [nval]; rw [hb0]; simp; rw [b1, b2, b3]; omega
    rw [e1, show wide 2 = 4 from rfl, show least 2 = 16384 from rfl, if_neg (by rw [hsz, hpz]; simp; omega), show 4 - 1 = 3 from rfl, e2, whole_hi (by omega), hpz]; rfl
  · rw [bytesL_3 (by omega)] at hb0 hb hpz
    have b1 := hb 1 (by omega) (by simp)
    have b2 := hb 2 (by omega) (by simp)
    have b3 := hb 3 (by omega) (by simp)
    have b4 := hb 4 (by omega) (by simp)
    have b5 := hb 5 (by omega) (by simp)
    have b6 := hb 6 (by omega) (by simp)
    have b7 := hb 7 (by omega) (by simp)
    simp at hb0 b1 b2 b3 b4 b5 b6 b7
    have e1 : byt (p ++ putB n ++ q) p.size / 64 = 3 := by rw [hb0]; omega
    have e2 : nval (p ++ putB n ++ q) p.size 7 = n := by simp only [nval]; rw [hb0]; simp; rw [b1, b2, b3, b4, b5, b6, b7]; omega
    rw [e1, show wide 3 = 8 from rfl, show least 3 = 1073741824 from rfl, if_neg (by rw [hsz, hpz]; simp; omega), show 8 - 1 = 7 from rfl, e2, whole_hi (by omega), hpz]; rfl
theorem extract_mid (p t q : ByteArray) : (p ++ t ++ q).extract p.size (p.size + t.size) = t := by
  have h : ((p ++ t ++ q).extract p.size (p.size + t.size)).data.toList = t.data.toList := by
    rw [Lib.extract_data, append_data, append_data, List.append_assoc, Lib.size_eq p, List.drop_left, Nat.add_sub_cancel_left, Lib.size_eq t, List.take_left]
  rw [← Lib.mk_data ((p ++ t ++ q).extract p.size (p.size + t.size)), h, Lib.mk_data]
/-- Wherever a text's bytes stand, they are read as it, if it isn't longer than may be. -/
theorem get_text (t p q : ByteArray) (most : Int) (h1 : (t.size : Int) < 4611686018427387904) :
    textS (p ++ textB t ++ q) p.size most = if (t.size : Int) > most then (⟨#[]⟩, 0, 4) else (t, (p.size : Int) + ((textB t).size : Int), 0) := by
  have hg := get_put t.size p (t ++ q) (by omega) h1
  have e : p ++ putB t.size ++ (t ++ q) = p ++ textB t ++ q := by unfold textB; simp only [ByteArray.append_assoc]
  rw [e] at hg
  have hsz : (p ++ textB t ++ q).size = p.size + (putB t.size).size + t.size + q.size := by unfold textB; simp only [ByteArray.size_append]; omega
  have hz : (textB t).size = (putB t.size).size + t.size := by unfold textB; simp only [ByteArray.size_append]
  rw [textS_of, hg]
  unfold textOf
  simp only [if_true]
  by_cases h2 : (t.size : Int) > most
  · rw [if_pos (.inr h2), if_pos h2]
  · rw [if_neg (by omega), if_neg (by rw [hsz]; omega), if_neg h2]
    have e1 : ((p.size : Int) + ((putB t.size).size : Int)).toNat = (p ++ putB t.size).size := by rw [ByteArray.size_append]; omega
    have e2 : ((p.size : Int) + ((putB t.size).size : Int) + (t.size : Int)).toNat = (p ++ putB t.size).size + t.size := by rw [ByteArray.size_append]; omega
    have e3 : p ++ textB t ++ q = (p ++ putB t.size) ++ t ++ q := by unfold textB; simp only [ByteArray.append_assoc]
    rw [e1, e2, e3, extract_mid, hz]
    simp only [Prod.mk.injEq, true_and, and_true]
    omega

/-! ### The order -/
end Go.Proofs.Ytdjompbhlkgmbaa.Num
end
section
/- What is put is got: the plain law, and rec.Get's contract at a record's bytes (own text). -/
namespace Go.Proofs.Ytdjompbhlkgmbaa.Rec
open Go.Proofs.Ytdjompbhlkgmbaa Go.RowKit Go.Proofs.Ytdjompbhlkgmbaa.Mem
open Go.Proofs.Ytdjompbhlkgmbaa.Num (putB putE textB)
set_option linter.unusedVariables false
set_option linter.unusedSimpArgs false
theorem rdN_put {s : ByteArray} (p q : ByteArray) (n a m : Int) (hs : s = p ++ putB n ++ q) (ha : a = p.size) (h0 : 0 ≤ n) (h1 : n < 4611686018427387904) (hm : n ≤ m) : rdN s a 0 m = (n, (((p ++ putB n).size : Nat) : Int), 0) := by
  subst hs ha
  have h := Num.get_put n p q h0 h1
  unfold rdN
  rw [h, if_neg (by simp), if_neg (by simp)]
  simp only []
  rw [if_neg (by omega), ByteArray.size_append]
  simp
theorem rdT_put {s : ByteArray} (p q t : ByteArray) (a m : Int) (hs : s = p ++ textB t ++ q) (ha : a = p.size) (h1 : (t.size : Int) < 4611686018427387904) (hm : (t.size : Int) ≤ m) : rdT s a 0 m = (t, (((p ++ textB t).size : Nat) : Int), 0) := by
  subst hs ha
  have h := Num.get_text t p q m h1
  rw [if_neg (by omega)] at h
  unfold rdT
  rw [h, if_neg (by simp), if_neg (by simp), ByteArray.size_append]
  simp
theorem mayR_all {k : ByteArray} {p n d f x : Int} {b : ByteArray} (h : mayR k p n d f x b = true) : k.size ≤ 250 ∧ p ≤ 281474976710655 ∧ x ≤ 281474976710655 ∧ b.size ≤ 1024 ∧ (d = 3 ∨ (f = 0 ∧ x = 0 ∧ b.size = 0)) := by
  have hs := mayR_size h
  unfold mayR at h
  refine ⟨hs.1, ?_⟩
  by_cases h0 : keyMay k = false
  · rw [if_pos h0] at h; cases h
  rw [if_neg h0] at h
  by_cases h1 : 281474976710655 < p
  · rw [if_pos h1] at h; cases h
  rw [if_neg h1] at h
  by_cases h2 : 63 < n
  · rw [if_pos h2] at h; cases h
  rw [if_neg h2] at h
  by_cases h3 : 281474976710655 < x
  · rw [if_pos h3] at h; cases h
  rw [if_neg h3] at h
  by_cases h4 : 1024 < b.size
  · rw [if_pos h4] at h; cases h
  rw [if_neg h4] at h
  refine ⟨by omega, by omega, hs.2, ?_⟩
  by_cases h5 : d = 3
  · exact Or.inl h5
  rw [if_neg h5] at h
  right
  by_cases h7 : f = 0
  · by_cases h8 : x = 0
    · by_cases h9 : b.size = 0
      · exact ⟨h7, h8, h9⟩
      · simp [h7, h8, h9] at h
    · simp [h7, h8] at h
  · simp [h7] at h
end Go.Proofs.Ytdjompbhlkgmbaa.Rec
end

/- RecOrders answers true: the walk (own text; printed by wip/tools/gen_reclaws.py, a program of this session). -/
import Derived.Test.YtlohnhjfdmldnaaRecFixed
import Derived.Test.YtlohnhjfdmldnaaRecGreat
import Derived.Test.YtlohnhjfdmldnaaRecJoin
namespace Go.Proofs.Ytlohnhjfdmldnaa.Rec
open Go.Proofs.Ytlohnhjfdmldnaa Go.RowKit Go.Proofs.Ytlohnhjfdmldnaa.Mem Go.Proofs.Ytlohnhjfdmldnaa.Hlc
set_option linter.unusedVariables false
set_option linter.unusedSimpArgs false
theorem orders_great (ak : ByteArray) (ap al an ad af ax : Int) (ab : ByteArray) (ck : ByteArray) (cp cl cn cd cf cx : Int) (cb : ByteArray) (w : World) (hg : (gr ak ab || gr ck cb) = true) : Calls Try.prog 5 #[.agg #[.string ak, .int .u64 ap, .int .u32 al, .int .u8 an, .int .u8 ad, .int .u32 af, .int .u64 ax, .string ab], .agg #[.string ck, .int .u64 cp, .int .u32 cl, .int .u8 cn, .int .u8 cd, .int .u32 cf, .int .u64 cx, .string cb]] w fun e w' => e = .returned (.bool true) ∧ Below w.heap.size w w' := by
  have HG := Lib.hid (fun b t w h => great2 ak ap al an ad af ax ab ck cp cl cn cd cf cx cb b t w h)
  rw [hg] at HG
  go_enter Try.func5, Try.ntmps5
  go_wp2_with (fail)
  have hA2 := at_new ((w.alloc (.cells #[.string ak, .int .u64 ap, .int .u32 al, .int .u8 an, .int .u8 ad, .int .u32 af, .int .u64 ax, .string ab] 27)).alloc (.cells #[.string ck, .int .u64 cp, .int .u32 cl, .int .u8 cn, .int .u8 cd, .int .u32 cf, .int .u64 cx, .string cb] 27)) #[.string ak, .int .u64 ap, .int .u32 al, .int .u8 an, .int .u8 ad, .int .u32 af, .int .u64 ax, .string ab, .string ck, .int .u64 cp, .int .u32 cl, .int .u8 cn, .int .u8 cd, .int .u32 cf, .int .u64 cx, .string cb] 27
  have HA := Lib.hid (at_alloc (o := .cells #[.string ak, .int .u64 ap, .int .u32 al, .int .u8 an, .int .u8 ad, .int .u32 af, .int .u64 ax, .string ab, .string ck, .int .u64 cp, .int .u32 cl, .int .u8 cn, .int .u8 cd, .int .u32 cf, .int .u64 cx, .string cb] 27) (at_alloc (o := .cells #[.string ck, .int .u64 cp, .int .u32 cl, .int .u8 cn, .int .u8 cd, .int .u32 cf, .int .u64 cx, .string cb] 27) (at_new w #[.string ak, .int .u64 ap, .int .u32 al, .int .u8 an, .int .u8 ad, .int .u32 af, .int .u64 ax, .string ab] 27)))
  have HC := Lib.hid (at_alloc (o := .cells #[.string ak, .int .u64 ap, .int .u32 al, .int .u8 an, .int .u8 ad, .int .u32 af, .int .u64 ax, .string ab, .string ck, .int .u64 cp, .int .u32 cl, .int .u8 cn, .int .u8 cd, .int .u32 cf, .int .u64 cx, .string cb] 27) (at_new (w.alloc (.cells #[.string ak, .int .u64 ap, .int .u32 al, .int .u8 an, .int .u8 ad, .int .u32 af, .int .u64 ax, .string ab] 27)) #[.string ck, .int .u64 cp, .int .u32 cl, .int .u8 cn, .int .u8 cd, .int .u32 cf, .int .u64 cx, .string cb] 27))
  have HB := Lib.hid (below_al (o := .cells #[.string ak, .int .u64 ap, .int .u32 al, .int .u8 an, .int .u8 ad, .int .u32 af, .int .u64 ax, .string ab, .string ck, .int .u64 cp, .int .u32 cl, .int .u8 cn, .int .u8 cd, .int .u32 cf, .int .u64 cx, .string cb] 27) (below_al (o := .cells #[.string ck, .int .u64 cp, .int .u32 cl, .int .u8 cn, .int .u8 cd, .int .u32 cf, .int .u64 cx, .string cb] 27) (below_al (o := .cells #[.string ak, .int .u64 ap, .int .u32 al, .int .u8 an, .int .u8 ad, .int .u32 af, .int .u64 ax, .string ab] 27) (Below.refl w.heap.size w))))
  simp only [World.size_alloc] at hA2 HC
  refine (HG.out (w.heap.size + 1 + 1) _ _ hA2).mono ?_
  rintro e w1 ⟨rfl, b1⟩
  clear hA2
  replace HA := Lib.hid (at_below HA.out b1)
  replace HC := Lib.hid (at_below HC.out b1)
  replace HB := Lib.hid (below_on HB.out b1)
  clear b1
  go_wp2_with (fail)
  refine (fixed_any _).mono ?_
  rintro e w2 ⟨rfl, b2⟩
  go_wp2_with (fail)
  go_ret
  exact ⟨rfl, below_on HB.out b2⟩
set_option maxRecDepth 100000 in
set_option maxHeartbeats 1600000 in
theorem orders_0 (ak : ByteArray) (ap al an ad af ax : Int) (ab : ByteArray) (ck : ByteArray) (cp cl cn cd cf cx : Int) (cb : ByteArray) (w : World) (hg : (gr ak ab || gr ck cb) = false) (za : ab.size ≤ 1000000) (zc : cb.size ≤ 1000000) (h1 : cmpR ap al an ad af ax ab cp cl cn cd cf cx cb = -1) : Calls Try.prog 5 #[.agg #[.string ak, .int .u64 ap, .int .u32 al, .int .u8 an, .int .u8 ad, .int .u32 af, .int .u64 ax, .string ab], .agg #[.string ck, .int .u64 cp, .int .u32 cl, .int .u8 cn, .int .u8 cd, .int .u32 cf, .int .u64 cx, .string cb]] w fun e w' => e = .returned (.bool true) ∧ Below w.heap.size w w' := by
  have HG := Lib.hid (fun b t w h => great2 ak ap al an ad af ax ab ck cp cl cn cd cf cx cb b t w h)
  rw [hg] at HG
  have g3 := fun w => join_any ak ap al an ad af ax ab ck cp cl cn cd cf cx cb w za zc
  have g4 := fun w => refJoin_any ak ap al an ad af ax ab ck cp cl cn cd cf cx cb w za zc
  rw [if_pos h1] at g3 g4
  have H0 := Lib.hid fixed_any
  have H1 := Lib.hid (fun w => rcompare_any ak ap al an ad af ax ab ck cp cl cn cd cf cx cb w)
  have H2 := Lib.hid (fun w => refCmp_any ak ap al an ad af ax ab ck cp cl cn cd cf cx cb w za zc)
  have H3 := Lib.hid g3
  have H4 := Lib.hid g4
  clear g3 g4 h1
  generalize cmpR ap al an ad af ax ab cp cl cn cd cf cx cb = cc at *
  go_enter Try.func5, Try.ntmps5
  go_wp2_with (fail)
  have hA2 := at_new ((w.alloc (.cells #[.string ak, .int .u64 ap, .int .u32 al, .int .u8 an, .int .u8 ad, .int .u32 af, .int .u64 ax, .string ab] 27)).alloc (.cells #[.string ck, .int .u64 cp, .int .u32 cl, .int .u8 cn, .int .u8 cd, .int .u32 cf, .int .u64 cx, .string cb] 27)) #[.string ak, .int .u64 ap, .int .u32 al, .int .u8 an, .int .u8 ad, .int .u32 af, .int .u64 ax, .string ab, .string ck, .int .u64 cp, .int .u32 cl, .int .u8 cn, .int .u8 cd, .int .u32 cf, .int .u64 cx, .string cb] 27
  have HA := Lib.hid (at_alloc (o := .cells #[.string ak, .int .u64 ap, .int .u32 al, .int .u8 an, .int .u8 ad, .int .u32 af, .int .u64 ax, .string ab, .string ck, .int .u64 cp, .int .u32 cl, .int .u8 cn, .int .u8 cd, .int .u32 cf, .int .u64 cx, .string cb] 27) (at_alloc (o := .cells #[.string ck, .int .u64 cp, .int .u32 cl, .int .u8 cn, .int .u8 cd, .int .u32 cf, .int .u64 cx, .string cb] 27) (at_new w #[.string ak, .int .u64 ap, .int .u32 al, .int .u8 an, .int .u8 ad, .int .u32 af, .int .u64 ax, .string ab] 27)))
  have HC := Lib.hid (at_alloc (o := .cells #[.string ak, .int .u64 ap, .int .u32 al, .int .u8 an, .int .u8 ad, .int .u32 af, .int .u64 ax, .string ab, .string ck, .int .u64 cp, .int .u32 cl, .int .u8 cn, .int .u8 cd, .int .u32 cf, .int .u64 cx, .string cb] 27) (at_new (w.alloc (.cells #[.string ak, .int .u64 ap, .int .u32 al, .int .u8 an, .int .u8 ad, .int .u32 af, .int .u64 ax, .string ab] 27)) #[.string ck, .int .u64 cp, .int .u32 cl, .int .u8 cn, .int .u8 cd, .int .u32 cf, .int .u64 cx, .string cb] 27))
  have HB := Lib.hid (below_al (o := .cells #[.string ak, .int .u64 ap, .int .u32 al, .int .u8 an, .int .u8 ad, .int .u32 af, .int .u64 ax, .string ab, .string ck, .int .u64 cp, .int .u32 cl, .int .u8 cn, .int .u8 cd, .int .u32 cf, .int .u64 cx, .string cb] 27) (below_al (o := .cells #[.string ck, .int .u64 cp, .int .u32 cl, .int .u8 cn, .int .u8 cd, .int .u32 cf, .int .u64 cx, .string cb] 27) (below_al (o := .cells #[.string ak, .int .u64 ap, .int .u32 al, .int .u8 an, .int .u8 ad, .int .u32 af, .int .u64 ax, .string ab] 27) (Below.refl w.heap.size w))))
  simp only [World.size_alloc] at hA2 HC
  refine (HG.out (w.heap.size + 1 + 1) _ _ hA2).mono ?_
  rintro e w1 ⟨rfl, b1⟩
  clear hA2
  replace HA := Lib.hid (at_below HA.out b1)
  replace HC := Lib.hid (at_below HC.out b1)
  replace HB := Lib.hid (below_on HB.out b1)
  clear b1
  go_wp2_with (fail)
  replace HA := Lib.hid (at_drew HA.out)
  replace HC := Lib.hid (at_drew HC.out)
  replace HB := Lib.hid (Below.drew HB.out)
  refine wp_region_held_drew (S := (fun W => (W.cell? ⟨w.heap.size, 0, none⟩ = some (.string ak) ∧ W.cell? ⟨w.heap.size, 1, none⟩ = some (.int .u64 ap) ∧ W.cell? ⟨w.heap.size, 2, none⟩ = some (.int .u32 al) ∧ W.cell? ⟨w.heap.size, 3, none⟩ = some (.int .u8 an) ∧ W.cell? ⟨w.heap.size, 4, none⟩ = some (.int .u8 ad) ∧ W.cell? ⟨w.heap.size, 5, none⟩ = some (.int .u32 af) ∧ W.cell? ⟨w.heap.size, 6, none⟩ = some (.int .u64 ax) ∧ W.cell? ⟨w.heap.size, 7, none⟩ = some (.string ab)) ∧ (W.cell? ⟨(w.heap.size + 1), 0, none⟩ = some (.string ck) ∧ W.cell? ⟨(w.heap.size + 1), 1, none⟩ = some (.int .u64 cp) ∧ W.cell? ⟨(w.heap.size + 1), 2, none⟩ = some (.int .u32 cl) ∧ W.cell? ⟨(w.heap.size + 1), 3, none⟩ = some (.int .u8 cn) ∧ W.cell? ⟨(w.heap.size + 1), 4, none⟩ = some (.int .u8 cd) ∧ W.cell? ⟨(w.heap.size + 1), 5, none⟩ = some (.int .u32 cf) ∧ W.cell? ⟨(w.heap.size + 1), 6, none⟩ = some (.int .u64 cx) ∧ W.cell? ⟨(w.heap.size + 1), 7, none⟩ = some (.string cb)))) (by kernel_rfl) ?_ (fun hHeld => ?_)
  · (try dsimp only)
    exact ⟨⟨(at8 HA.out).1, (at8 HA.out).2.1, (at8 HA.out).2.2.1, (at8 HA.out).2.2.2.1, (at8 HA.out).2.2.2.2.1, (at8 HA.out).2.2.2.2.2.1, (at8 HA.out).2.2.2.2.2.2.1, (at8 HA.out).2.2.2.2.2.2.2.1⟩, ⟨(at8 HC.out).1, (at8 HC.out).2.1, (at8 HC.out).2.2.1, (at8 HC.out).2.2.2.1, (at8 HC.out).2.2.2.2.1, (at8 HC.out).2.2.2.2.2.1, (at8 HC.out).2.2.2.2.2.2.1, (at8 HC.out).2.2.2.2.2.2.2.1⟩⟩
  refine Draw.call_d (i := 0) rfl (by kernel_rfl) (by rfl) (fun K hK => ?_)
  go_simp
  refine (H0.out _).mono ?_
  rintro e w2 ⟨rfl, b2⟩
  replace HA := Lib.hid (at_below HA.out b2)
  replace HC := Lib.hid (at_below HC.out b2)
  replace HB := Lib.hid (below_on HB.out b2)
  clear b2
  refine hK.out _ _ ?_ (fun hHeld => ?_)
  · (try dsimp only)
    exact ⟨⟨(at8 HA.out).1, (at8 HA.out).2.1, (at8 HA.out).2.2.1, (at8 HA.out).2.2.2.1, (at8 HA.out).2.2.2.2.1, (at8 HA.out).2.2.2.2.2.1, (at8 HA.out).2.2.2.2.2.2.1, (at8 HA.out).2.2.2.2.2.2.2.1⟩, ⟨(at8 HC.out).1, (at8 HC.out).2.1, (at8 HC.out).2.2.1, (at8 HC.out).2.2.2.1, (at8 HC.out).2.2.2.2.1, (at8 HC.out).2.2.2.2.2.1, (at8 HC.out).2.2.2.2.2.2.1, (at8 HC.out).2.2.2.2.2.2.2.1⟩⟩
  clear hK K
  (try simp only [Act.put, List.setIfInBounds_toArray, List.set_cons_zero, List.set_cons_succ])
  refine Draw.take_w (i := 1) (v := ?vv1) rfl (by kernel_rfl) (by kernel_rfl) (by kernel_rfl) (fun _ _ _ h => h) (by rfl) ?hy1 (by assumption) ?rest1
  case hy1 => ((intro w hSw); (try dsimp only at hSw); go_simp; (try with_reducible rfl))
  (try simp only [Act.put, List.setIfInBounds_toArray, List.set_cons_zero, List.set_cons_succ])
  refine Draw.take_w (i := 2) (v := ?vv2) rfl (by kernel_rfl) (by kernel_rfl) (by kernel_rfl) (fun _ _ _ h => h) (by rfl) ?hy2 (by assumption) ?rest2
  case hy2 => ((intro w hSw); (try dsimp only at hSw); go_simp; (try with_reducible rfl))
  (try simp only [Act.put, List.setIfInBounds_toArray, List.set_cons_zero, List.set_cons_succ])
  refine Draw.take_w (i := 3) (v := ?vv3) rfl (by kernel_rfl) (by kernel_rfl) (by kernel_rfl) (fun _ _ _ h => h) (by rfl) ?hy3 (by assumption) ?rest3
  case hy3 => ((intro w hSw); (try dsimp only at hSw); go_simp; (try with_reducible rfl))
  (try simp only [Act.put, List.setIfInBounds_toArray, List.set_cons_zero, List.set_cons_succ])
  refine Draw.take_w (i := 5) (v := ?vv4) rfl (by kernel_rfl) (by kernel_rfl) (by kernel_rfl) (fun _ _ _ h => h) (by rfl) ?hy4 (by assumption) ?rest4
  case hy4 => ((intro w hSw); (try dsimp only at hSw); go_simp; (try with_reducible rfl))
  (try simp only [Act.put, List.setIfInBounds_toArray, List.set_cons_zero, List.set_cons_succ])
  refine Draw.take_w (i := 6) (v := ?vv5) rfl (by kernel_rfl) (by kernel_rfl) (by kernel_rfl) (fun _ _ _ h => h) (by rfl) ?hy5 (by assumption) ?rest5
  case hy5 => ((intro w hSw); (try dsimp only at hSw); go_simp; (try with_reducible rfl))
  (try simp only [Act.put, List.setIfInBounds_toArray, List.set_cons_zero, List.set_cons_succ])
  refine Draw.call_d (i := 4) rfl (by kernel_rfl) (by rfl) (fun K hK => ?_)
  go_simp
  refine (H1.out _).mono ?_
  rintro e w3 ⟨rfl, b2⟩
  replace HA := Lib.hid (at_below HA.out b2)
  replace HC := Lib.hid (at_below HC.out b2)
  replace HB := Lib.hid (below_on HB.out b2)
  clear b2
  refine hK.out _ _ ?_ (fun hHeld => ?_)
  · (try dsimp only)
    exact ⟨⟨(at8 HA.out).1, (at8 HA.out).2.1, (at8 HA.out).2.2.1, (at8 HA.out).2.2.2.1, (at8 HA.out).2.2.2.2.1, (at8 HA.out).2.2.2.2.2.1, (at8 HA.out).2.2.2.2.2.2.1, (at8 HA.out).2.2.2.2.2.2.2.1⟩, ⟨(at8 HC.out).1, (at8 HC.out).2.1, (at8 HC.out).2.2.1, (at8 HC.out).2.2.2.1, (at8 HC.out).2.2.2.2.1, (at8 HC.out).2.2.2.2.2.1, (at8 HC.out).2.2.2.2.2.2.1, (at8 HC.out).2.2.2.2.2.2.2.1⟩⟩
  clear hK K
  (try simp only [Act.put, List.setIfInBounds_toArray, List.set_cons_zero, List.set_cons_succ])
  refine Draw.call_d (i := 7) rfl (by kernel_rfl) (by rfl) (fun K hK => ?_)
  go_simp
  refine (H2.out _).mono ?_
  rintro e w4 ⟨rfl, b2⟩
  replace HA := Lib.hid (at_below HA.out b2)
  replace HC := Lib.hid (at_below HC.out b2)
  replace HB := Lib.hid (below_on HB.out b2)
  clear b2
  refine hK.out _ _ ?_ (fun hHeld => ?_)
  · (try dsimp only)
    exact ⟨⟨(at8 HA.out).1, (at8 HA.out).2.1, (at8 HA.out).2.2.1, (at8 HA.out).2.2.2.1, (at8 HA.out).2.2.2.2.1, (at8 HA.out).2.2.2.2.2.1, (at8 HA.out).2.2.2.2.2.2.1, (at8 HA.out).2.2.2.2.2.2.2.1⟩, ⟨(at8 HC.out).1, (at8 HC.out).2.1, (at8 HC.out).2.2.1, (at8 HC.out).2.2.2.1, (at8 HC.out).2.2.2.2.1, (at8 HC.out).2.2.2.2.2.1, (at8 HC.out).2.2.2.2.2.2.1, (at8 HC.out).2.2.2.2.2.2.2.1⟩⟩
  clear hK K
  (try simp only [Act.put, List.setIfInBounds_toArray, List.set_cons_zero, List.set_cons_succ])
  refine Draw.take_w (i := 8) (v := ?vv6) rfl (by kernel_rfl) (by kernel_rfl) (by kernel_rfl) (fun _ _ _ h => h) (by rfl) ?hy6 (by assumption) ?rest6
  case hy6 => ((intro w hSw); (try dsimp only at hSw); go_simp; (try with_reducible rfl))
  (try simp only [Act.put, List.setIfInBounds_toArray, List.set_cons_zero, List.set_cons_succ])
  refine Draw.take_w (i := 9) (v := ?vv7) rfl (by kernel_rfl) (by kernel_rfl) (by kernel_rfl) (fun _ _ _ h => h) (by rfl) ?hy7 (by assumption) ?rest7
  case hy7 => ((intro w hSw); (try dsimp only at hSw); go_simp; (try with_reducible rfl))
  (try simp only [Act.put, List.setIfInBounds_toArray, List.set_cons_zero, List.set_cons_succ])
  refine Draw.take_w (i := 10) (v := ?vv8) rfl (by kernel_rfl) (by kernel_rfl) (by kernel_rfl) (fun _ _ _ h => h) (by rfl) ?hy8 (by assumption) ?rest8
  case hy8 => ((intro w hSw); (try dsimp only at hSw); go_simp; (try with_reducible rfl))
  (try simp only [Act.put, List.setIfInBounds_toArray, List.set_cons_zero, List.set_cons_succ])
  refine Draw.take_w (i := 11) (v := ?vv9) rfl (by kernel_rfl) (by kernel_rfl) (by kernel_rfl) (fun _ _ _ h => h) (by rfl) ?hy9 (by assumption) ?rest9
  case hy9 => ((intro w hSw); (try dsimp only at hSw); go_simp; (try with_reducible rfl))
  (try simp only [Act.put, List.setIfInBounds_toArray, List.set_cons_zero, List.set_cons_succ])
  refine Draw.take_w (i := 12) (v := ?vv10) rfl (by kernel_rfl) (by kernel_rfl) (by kernel_rfl) (fun _ _ _ h => h) (by rfl) ?hy10 (by assumption) ?rest10
  case hy10 => ((intro w hSw); (try dsimp only at hSw); go_simp; (try with_reducible rfl))
  (try simp only [Act.put, List.setIfInBounds_toArray, List.set_cons_zero, List.set_cons_succ])
  refine Draw.take_w (i := 14) (v := ?vv11) rfl (by kernel_rfl) (by kernel_rfl) (by kernel_rfl) (fun _ _ _ h => h) (by rfl) ?hy11 (by assumption) ?rest11
  case hy11 => ((intro w hSw); (try dsimp only at hSw); go_simp; (try with_reducible rfl))
  (try simp only [Act.put, List.setIfInBounds_toArray, List.set_cons_zero, List.set_cons_succ])
  refine Draw.take_w (i := 15) (v := ?vv12) rfl (by kernel_rfl) (by kernel_rfl) (by kernel_rfl) (fun _ _ _ h => h) (by rfl) ?hy12 (by assumption) ?rest12
  case hy12 => ((intro w hSw); (try dsimp only at hSw); go_simp; (try with_reducible rfl))
  (try simp only [Act.put, List.setIfInBounds_toArray, List.set_cons_zero, List.set_cons_succ])
  refine Draw.call_d (i := 13) rfl (by kernel_rfl) (by rfl) (fun K hK => ?_)
  go_simp
  refine (H3.out _).mono ?_
  rintro e w5 ⟨rfl, b2⟩
  replace HA := Lib.hid (at_below HA.out b2)
  replace HC := Lib.hid (at_below HC.out b2)
  replace HB := Lib.hid (below_on HB.out b2)
  clear b2
  refine hK.out _ _ ?_ (fun hHeld => ?_)
  · (try dsimp only)
    exact ⟨⟨(at8 HA.out).1, (at8 HA.out).2.1, (at8 HA.out).2.2.1, (at8 HA.out).2.2.2.1, (at8 HA.out).2.2.2.2.1, (at8 HA.out).2.2.2.2.2.1, (at8 HA.out).2.2.2.2.2.2.1, (at8 HA.out).2.2.2.2.2.2.2.1⟩, ⟨(at8 HC.out).1, (at8 HC.out).2.1, (at8 HC.out).2.2.1, (at8 HC.out).2.2.2.1, (at8 HC.out).2.2.2.2.1, (at8 HC.out).2.2.2.2.2.1, (at8 HC.out).2.2.2.2.2.2.1, (at8 HC.out).2.2.2.2.2.2.2.1⟩⟩
  clear hK K
  (try simp only [Act.put, List.setIfInBounds_toArray, List.set_cons_zero, List.set_cons_succ])
  refine Draw.call_d (i := 16) rfl (by kernel_rfl) (by rfl) (fun K hK => ?_)
  go_simp
  refine (H4.out _).mono ?_
  rintro e w6 ⟨rfl, b2⟩
  replace HA := Lib.hid (at_below HA.out b2)
  replace HC := Lib.hid (at_below HC.out b2)
  replace HB := Lib.hid (below_on HB.out b2)
  clear b2
  refine hK.out _ _ ?_ (fun hHeld => ?_)
  · (try dsimp only)
    exact ⟨⟨(at8 HA.out).1, (at8 HA.out).2.1, (at8 HA.out).2.2.1, (at8 HA.out).2.2.2.1, (at8 HA.out).2.2.2.2.1, (at8 HA.out).2.2.2.2.2.1, (at8 HA.out).2.2.2.2.2.2.1, (at8 HA.out).2.2.2.2.2.2.2.1⟩, ⟨(at8 HC.out).1, (at8 HC.out).2.1, (at8 HC.out).2.2.1, (at8 HC.out).2.2.2.1, (at8 HC.out).2.2.2.2.1, (at8 HC.out).2.2.2.2.2.1, (at8 HC.out).2.2.2.2.2.2.1, (at8 HC.out).2.2.2.2.2.2.2.1⟩⟩
  clear hK K
  (try simp only [Act.put, List.setIfInBounds_toArray, List.set_cons_zero, List.set_cons_succ])
  refine Draw.take_w (i := 17) (v := ?vv13) rfl (by kernel_rfl) (by kernel_rfl) (by kernel_rfl) (fun _ _ _ h => h) (by rfl) ?hy13 (by assumption) ?rest13
  case hy13 => ((intro w hSw); (try dsimp only at hSw); go_simp; (try with_reducible rfl))
  (try simp only [Act.put, List.setIfInBounds_toArray, List.set_cons_zero, List.set_cons_succ])
  refine Draw.take_w (i := 18) (v := ?vv14) rfl (by kernel_rfl) (by kernel_rfl) (by kernel_rfl) (fun _ _ _ h => h) (by rfl) ?hy14 (by assumption) ?rest14
  case hy14 => ((intro w hSw); (try dsimp only at hSw); go_simp; (try with_reducible rfl))
  (try simp only [Act.put, List.setIfInBounds_toArray, List.set_cons_zero, List.set_cons_succ])
  refine Draw.take_w (i := 19) (v := ?vv15) rfl (by kernel_rfl) (by kernel_rfl) (by kernel_rfl) (fun _ _ _ h => h) (by rfl) ?hy15 (by assumption) ?rest15
  case hy15 => ((intro w hSw); (try dsimp only at hSw); go_simp; (try with_reducible rfl))
  (try simp only [Act.put, List.setIfInBounds_toArray, List.set_cons_zero, List.set_cons_succ])
  refine wpAnyH_done (by kernel_rfl) ?_ _
  go_wp2_with (fail)
  go_ret
  exact ⟨rfl, HB.out⟩
set_option maxRecDepth 100000 in
set_option maxHeartbeats 1600000 in
theorem orders_1 (ak : ByteArray) (ap al an ad af ax : Int) (ab : ByteArray) (ck : ByteArray) (cp cl cn cd cf cx : Int) (cb : ByteArray) (w : World) (hg : (gr ak ab || gr ck cb) = false) (za : ab.size ≤ 1000000) (zc : cb.size ≤ 1000000) (h1 : ¬ cmpR ap al an ad af ax ab cp cl cn cd cf cx cb = -1) : Calls Try.prog 5 #[.agg #[.string ak, .int .u64 ap, .int .u32 al, .int .u8 an, .int .u8 ad, .int .u32 af, .int .u64 ax, .string ab], .agg #[.string ck, .int .u64 cp, .int .u32 cl, .int .u8 cn, .int .u8 cd, .int .u32 cf, .int .u64 cx, .string cb]] w fun e w' => e = .returned (.bool true) ∧ Below w.heap.size w w' := by
  have HG := Lib.hid (fun b t w h => great2 ak ap al an ad af ax ab ck cp cl cn cd cf cx cb b t w h)
  rw [hg] at HG
  have g3 := fun w => join_any ak ap al an ad af ax ab ck cp cl cn cd cf cx cb w za zc
  have g4 := fun w => refJoin_any ak ap al an ad af ax ab ck cp cl cn cd cf cx cb w za zc
  rw [if_neg h1] at g3 g4
  have H0 := Lib.hid fixed_any
  have H1 := Lib.hid (fun w => rcompare_any ak ap al an ad af ax ab ck cp cl cn cd cf cx cb w)
  have H2 := Lib.hid (fun w => refCmp_any ak ap al an ad af ax ab ck cp cl cn cd cf cx cb w za zc)
  have H3 := Lib.hid g3
  have H4 := Lib.hid g4
  clear g3 g4 h1
  generalize cmpR ap al an ad af ax ab cp cl cn cd cf cx cb = cc at *
  go_enter Try.func5, Try.ntmps5
  go_wp2_with (fail)
  have hA2 := at_new ((w.alloc (.cells #[.string ak, .int .u64 ap, .int .u32 al, .int .u8 an, .int .u8 ad, .int .u32 af, .int .u64 ax, .string ab] 27)).alloc (.cells #[.string ck, .int .u64 cp, .int .u32 cl, .int .u8 cn, .int .u8 cd, .int .u32 cf, .int .u64 cx, .string cb] 27)) #[.string ak, .int .u64 ap, .int .u32 al, .int .u8 an, .int .u8 ad, .int .u32 af, .int .u64 ax, .string ab, .string ck, .int .u64 cp, .int .u32 cl, .int .u8 cn, .int .u8 cd, .int .u32 cf, .int .u64 cx, .string cb] 27
  have HA := Lib.hid (at_alloc (o := .cells #[.string ak, .int .u64 ap, .int .u32 al, .int .u8 an, .int .u8 ad, .int .u32 af, .int .u64 ax, .string ab, .string ck, .int .u64 cp, .int .u32 cl, .int .u8 cn, .int .u8 cd, .int .u32 cf, .int .u64 cx, .string cb] 27) (at_alloc (o := .cells #[.string ck, .int .u64 cp, .int .u32 cl, .int .u8 cn, .int .u8 cd, .int .u32 cf, .int .u64 cx, .string cb] 27) (at_new w #[.string ak, .int .u64 ap, .int .u32 al, .int .u8 an, .int .u8 ad, .int .u32 af, .int .u64 ax, .string ab] 27)))
  have HC := Lib.hid (at_alloc (o := .cells #[.string ak, .int .u64 ap, .int .u32 al, .int .u8 an, .int .u8 ad, .int .u32 af, .int .u64 ax, .string ab, .string ck, .int .u64 cp, .int .u32 cl, .int .u8 cn, .int .u8 cd, .int .u32 cf, .int .u64 cx, .string cb] 27) (at_new (w.alloc (.cells #[.string ak, .int .u64 ap, .int .u32 al, .int .u8 an, .int .u8 ad, .int .u32 af, .int .u64 ax, .string ab] 27)) #[.string ck, .int .u64 cp, .int .u32 cl, .int .u8 cn, .int .u8 cd, .int .u32 cf, .int .u64 cx, .string cb] 27))
  have HB := Lib.hid (below_al (o := .cells #[.string ak, .int .u64 ap, .int .u32 al, .int .u8 an, .int .u8 ad, .int .u32 af, .int .u64 ax, .string ab, .string ck, .int .u64 cp, .int .u32 cl, .int .u8 cn, .int .u8 cd, .int .u32 cf, .int .u64 cx, .string cb] 27) (below_al (o := .cells #[.string ck, .int .u64 cp, .int .u32 cl, .int .u8 cn, .int .u8 cd, .int .u32 cf, .int .u64 cx, .string cb] 27) (below_al (o := .cells #[.string ak, .int .u64 ap, .int .u32 al, .int .u8 an, .int .u8 ad, .int .u32 af, .int .u64 ax, .string ab] 27) (Below.refl w.heap.size w))))
  simp only [World.size_alloc] at hA2 HC
  refine (HG.out (w.heap.size + 1 + 1) _ _ hA2).mono ?_
  rintro e w1 ⟨rfl, b1⟩
  clear hA2
  replace HA := Lib.hid (at_below HA.out b1)
  replace HC := Lib.hid (at_below HC.out b1)
  replace HB := Lib.hid (below_on HB.out b1)
  clear b1
  go_wp2_with (fail)
  replace HA := Lib.hid (at_drew HA.out)
  replace HC := Lib.hid (at_drew HC.out)
  replace HB := Lib.hid (Below.drew HB.out)
  refine wp_region_held_drew (S := (fun W => (W.cell? ⟨w.heap.size, 0, none⟩ = some (.string ak) ∧ W.cell? ⟨w.heap.size, 1, none⟩ = some (.int .u64 ap) ∧ W.cell? ⟨w.heap.size, 2, none⟩ = some (.int .u32 al) ∧ W.cell? ⟨w.heap.size, 3, none⟩ = some (.int .u8 an) ∧ W.cell? ⟨w.heap.size, 4, none⟩ = some (.int .u8 ad) ∧ W.cell? ⟨w.heap.size, 5, none⟩ = some (.int .u32 af) ∧ W.cell? ⟨w.heap.size, 6, none⟩ = some (.int .u64 ax) ∧ W.cell? ⟨w.heap.size, 7, none⟩ = some (.string ab)) ∧ (W.cell? ⟨(w.heap.size + 1), 0, none⟩ = some (.string ck) ∧ W.cell? ⟨(w.heap.size + 1), 1, none⟩ = some (.int .u64 cp) ∧ W.cell? ⟨(w.heap.size + 1), 2, none⟩ = some (.int .u32 cl) ∧ W.cell? ⟨(w.heap.size + 1), 3, none⟩ = some (.int .u8 cn) ∧ W.cell? ⟨(w.heap.size + 1), 4, none⟩ = some (.int .u8 cd) ∧ W.cell? ⟨(w.heap.size + 1), 5, none⟩ = some (.int .u32 cf) ∧ W.cell? ⟨(w.heap.size + 1), 6, none⟩ = some (.int .u64 cx) ∧ W.cell? ⟨(w.heap.size + 1), 7, none⟩ = some (.string cb)))) (by kernel_rfl) ?_ (fun hHeld => ?_)
  · (try dsimp only)
    exact ⟨⟨(at8 HA.out).1, (at8 HA.out).2.1, (at8 HA.out).2.2.1, (at8 HA.out).2.2.2.1, (at8 HA.out).2.2.2.2.1, (at8 HA.out).2.2.2.2.2.1, (at8 HA.out).2.2.2.2.2.2.1, (at8 HA.out).2.2.2.2.2.2.2.1⟩, ⟨(at8 HC.out).1, (at8 HC.out).2.1, (at8 HC.out).2.2.1, (at8 HC.out).2.2.2.1, (at8 HC.out).2.2.2.2.1, (at8 HC.out).2.2.2.2.2.1, (at8 HC.out).2.2.2.2.2.2.1, (at8 HC.out).2.2.2.2.2.2.2.1⟩⟩
  refine Draw.call_d (i := 0) rfl (by kernel_rfl) (by rfl) (fun K hK => ?_)
  go_simp
  refine (H0.out _).mono ?_
  rintro e w2 ⟨rfl, b2⟩
  replace HA := Lib.hid (at_below HA.out b2)
  replace HC := Lib.hid (at_below HC.out b2)
  replace HB := Lib.hid (below_on HB.out b2)
  clear b2
  refine hK.out _ _ ?_ (fun hHeld => ?_)
  · (try dsimp only)
    exact ⟨⟨(at8 HA.out).1, (at8 HA.out).2.1, (at8 HA.out).2.2.1, (at8 HA.out).2.2.2.1, (at8 HA.out).2.2.2.2.1, (at8 HA.out).2.2.2.2.2.1, (at8 HA.out).2.2.2.2.2.2.1, (at8 HA.out).2.2.2.2.2.2.2.1⟩, ⟨(at8 HC.out).1, (at8 HC.out).2.1, (at8 HC.out).2.2.1, (at8 HC.out).2.2.2.1, (at8 HC.out).2.2.2.2.1, (at8 HC.out).2.2.2.2.2.1, (at8 HC.out).2.2.2.2.2.2.1, (at8 HC.out).2.2.2.2.2.2.2.1⟩⟩
  clear hK K
  (try simp only [Act.put, List.setIfInBounds_toArray, List.set_cons_zero, List.set_cons_succ])
  refine Draw.take_w (i := 1) (v := ?vv16) rfl (by kernel_rfl) (by kernel_rfl) (by kernel_rfl) (fun _ _ _ h => h) (by rfl) ?hy16 (by assumption) ?rest16
  case hy16 => ((intro w hSw); (try dsimp only at hSw); go_simp; (try with_reducible rfl))
  (try simp only [Act.put, List.setIfInBounds_toArray, List.set_cons_zero, List.set_cons_succ])
  refine Draw.take_w (i := 2) (v := ?vv17) rfl (by kernel_rfl) (by kernel_rfl) (by kernel_rfl) (fun _ _ _ h => h) (by rfl) ?hy17 (by assumption) ?rest17
  case hy17 => ((intro w hSw); (try dsimp only at hSw); go_simp; (try with_reducible rfl))
  (try simp only [Act.put, List.setIfInBounds_toArray, List.set_cons_zero, List.set_cons_succ])
  refine Draw.take_w (i := 3) (v := ?vv18) rfl (by kernel_rfl) (by kernel_rfl) (by kernel_rfl) (fun _ _ _ h => h) (by rfl) ?hy18 (by assumption) ?rest18
  case hy18 => ((intro w hSw); (try dsimp only at hSw); go_simp; (try with_reducible rfl))
  (try simp only [Act.put, List.setIfInBounds_toArray, List.set_cons_zero, List.set_cons_succ])
  refine Draw.take_w (i := 5) (v := ?vv19) rfl (by kernel_rfl) (by kernel_rfl) (by kernel_rfl) (fun _ _ _ h => h) (by rfl) ?hy19 (by assumption) ?rest19
  case hy19 => ((intro w hSw); (try dsimp only at hSw); go_simp; (try with_reducible rfl))
  (try simp only [Act.put, List.setIfInBounds_toArray, List.set_cons_zero, List.set_cons_succ])
  refine Draw.take_w (i := 6) (v := ?vv20) rfl (by kernel_rfl) (by kernel_rfl) (by kernel_rfl) (fun _ _ _ h => h) (by rfl) ?hy20 (by assumption) ?rest20
  case hy20 => ((intro w hSw); (try dsimp only at hSw); go_simp; (try with_reducible rfl))
  (try simp only [Act.put, List.setIfInBounds_toArray, List.set_cons_zero, List.set_cons_succ])
  refine Draw.call_d (i := 4) rfl (by kernel_rfl) (by rfl) (fun K hK => ?_)
  go_simp
  refine (H1.out _).mono ?_
  rintro e w3 ⟨rfl, b2⟩
  replace HA := Lib.hid (at_below HA.out b2)
  replace HC := Lib.hid (at_below HC.out b2)
  replace HB := Lib.hid (below_on HB.out b2)
  clear b2
  refine hK.out _ _ ?_ (fun hHeld => ?_)
  · (try dsimp only)
    exact ⟨⟨(at8 HA.out).1, (at8 HA.out).2.1, (at8 HA.out).2.2.1, (at8 HA.out).2.2.2.1, (at8 HA.out).2.2.2.2.1, (at8 HA.out).2.2.2.2.2.1, (at8 HA.out).2.2.2.2.2.2.1, (at8 HA.out).2.2.2.2.2.2.2.1⟩, ⟨(at8 HC.out).1, (at8 HC.out).2.1, (at8 HC.out).2.2.1, (at8 HC.out).2.2.2.1, (at8 HC.out).2.2.2.2.1, (at8 HC.out).2.2.2.2.2.1, (at8 HC.out).2.2.2.2.2.2.1, (at8 HC.out).2.2.2.2.2.2.2.1⟩⟩
  clear hK K
  (try simp only [Act.put, List.setIfInBounds_toArray, List.set_cons_zero, List.set_cons_succ])
  refine Draw.call_d (i := 7) rfl (by kernel_rfl) (by rfl) (fun K hK => ?_)
  go_simp
  refine (H2.out _).mono ?_
  rintro e w4 ⟨rfl, b2⟩
  replace HA := Lib.hid (at_below HA.out b2)
  replace HC := Lib.hid (at_below HC.out b2)
  replace HB := Lib.hid (below_on HB.out b2)
  clear b2
  refine hK.out _ _ ?_ (fun hHeld => ?_)
  · (try dsimp only)
    exact ⟨⟨(at8 HA.out).1, (at8 HA.out).2.1, (at8 HA.out).2.2.1, (at8 HA.out).2.2.2.1, (at8 HA.out).2.2.2.2.1, (at8 HA.out).2.2.2.2.2.1, (at8 HA.out).2.2.2.2.2.2.1, (at8 HA.out).2.2.2.2.2.2.2.1⟩, ⟨(at8 HC.out).1, (at8 HC.out).2.1, (at8 HC.out).2.2.1, (at8 HC.out).2.2.2.1, (at8 HC.out).2.2.2.2.1, (at8 HC.out).2.2.2.2.2.1, (at8 HC.out).2.2.2.2.2.2.1, (at8 HC.out).2.2.2.2.2.2.2.1⟩⟩
  clear hK K
  (try simp only [Act.put, List.setIfInBounds_toArray, List.set_cons_zero, List.set_cons_succ])
  refine Draw.take_w (i := 8) (v := ?vv21) rfl (by kernel_rfl) (by kernel_rfl) (by kernel_rfl) (fun _ _ _ h => h) (by rfl) ?hy21 (by assumption) ?rest21
  case hy21 => ((intro w hSw); (try dsimp only at hSw); go_simp; (try with_reducible rfl))
  (try simp only [Act.put, List.setIfInBounds_toArray, List.set_cons_zero, List.set_cons_succ])
  refine Draw.take_w (i := 9) (v := ?vv22) rfl (by kernel_rfl) (by kernel_rfl) (by kernel_rfl) (fun _ _ _ h => h) (by rfl) ?hy22 (by assumption) ?rest22
  case hy22 => ((intro w hSw); (try dsimp only at hSw); go_simp; (try with_reducible rfl))
  (try simp only [Act.put, List.setIfInBounds_toArray, List.set_cons_zero, List.set_cons_succ])
  refine Draw.take_w (i := 10) (v := ?vv23) rfl (by kernel_rfl) (by kernel_rfl) (by kernel_rfl) (fun _ _ _ h => h) (by rfl) ?hy23 (by assumption) ?rest23
  case hy23 => ((intro w hSw); (try dsimp only at hSw); go_simp; (try with_reducible rfl))
  (try simp only [Act.put, List.setIfInBounds_toArray, List.set_cons_zero, List.set_cons_succ])
  refine Draw.take_w (i := 11) (v := ?vv24) rfl (by kernel_rfl) (by kernel_rfl) (by kernel_rfl) (fun _ _ _ h => h) (by rfl) ?hy24 (by assumption) ?rest24
  case hy24 => ((intro w hSw); (try dsimp only at hSw); go_simp; (try with_reducible rfl))
  (try simp only [Act.put, List.setIfInBounds_toArray, List.set_cons_zero, List.set_cons_succ])
  refine Draw.take_w (i := 12) (v := ?vv25) rfl (by kernel_rfl) (by kernel_rfl) (by kernel_rfl) (fun _ _ _ h => h) (by rfl) ?hy25 (by assumption) ?rest25
  case hy25 => ((intro w hSw); (try dsimp only at hSw); go_simp; (try with_reducible rfl))
  (try simp only [Act.put, List.setIfInBounds_toArray, List.set_cons_zero, List.set_cons_succ])
  refine Draw.take_w (i := 14) (v := ?vv26) rfl (by kernel_rfl) (by kernel_rfl) (by kernel_rfl) (fun _ _ _ h => h) (by rfl) ?hy26 (by assumption) ?rest26
  case hy26 => ((intro w hSw); (try dsimp only at hSw); go_simp; (try with_reducible rfl))
  (try simp only [Act.put, List.setIfInBounds_toArray, List.set_cons_zero, List.set_cons_succ])
  refine Draw.take_w (i := 15) (v := ?vv27) rfl (by kernel_rfl) (by kernel_rfl) (by kernel_rfl) (fun _ _ _ h => h) (by rfl) ?hy27 (by assumption) ?rest27
  case hy27 => ((intro w hSw); (try dsimp only at hSw); go_simp; (try with_reducible rfl))
  (try simp only [Act.put, List.setIfInBounds_toArray, List.set_cons_zero, List.set_cons_succ])
  refine Draw.call_d (i := 13) rfl (by kernel_rfl) (by rfl) (fun K hK => ?_)
  go_simp
  refine (H3.out _).mono ?_
  rintro e w5 ⟨rfl, b2⟩
  replace HA := Lib.hid (at_below HA.out b2)
  replace HC := Lib.hid (at_below HC.out b2)
  replace HB := Lib.hid (below_on HB.out b2)
  clear b2
  refine hK.out _ _ ?_ (fun hHeld => ?_)
  · (try dsimp only)
    exact ⟨⟨(at8 HA.out).1, (at8 HA.out).2.1, (at8 HA.out).2.2.1, (at8 HA.out).2.2.2.1, (at8 HA.out).2.2.2.2.1, (at8 HA.out).2.2.2.2.2.1, (at8 HA.out).2.2.2.2.2.2.1, (at8 HA.out).2.2.2.2.2.2.2.1⟩, ⟨(at8 HC.out).1, (at8 HC.out).2.1, (at8 HC.out).2.2.1, (at8 HC.out).2.2.2.1, (at8 HC.out).2.2.2.2.1, (at8 HC.out).2.2.2.2.2.1, (at8 HC.out).2.2.2.2.2.2.1, (at8 HC.out).2.2.2.2.2.2.2.1⟩⟩
  clear hK K
  (try simp only [Act.put, List.setIfInBounds_toArray, List.set_cons_zero, List.set_cons_succ])
  refine Draw.call_d (i := 16) rfl (by kernel_rfl) (by rfl) (fun K hK => ?_)
  go_simp
  refine (H4.out _).mono ?_
  rintro e w6 ⟨rfl, b2⟩
  replace HA := Lib.hid (at_below HA.out b2)
  replace HC := Lib.hid (at_below HC.out b2)
  replace HB := Lib.hid (below_on HB.out b2)
  clear b2
  refine hK.out _ _ ?_ (fun hHeld => ?_)
  · (try dsimp only)
    exact ⟨⟨(at8 HA.out).1, (at8 HA.out).2.1, (at8 HA.out).2.2.1, (at8 HA.out).2.2.2.1, (at8 HA.out).2.2.2.2.1, (at8 HA.out).2.2.2.2.2.1, (at8 HA.out).2.2.2.2.2.2.1, (at8 HA.out).2.2.2.2.2.2.2.1⟩, ⟨(at8 HC.out).1, (at8 HC.out).2.1, (at8 HC.out).2.2.1, (at8 HC.out).2.2.2.1, (at8 HC.out).2.2.2.2.1, (at8 HC.out).2.2.2.2.2.1, (at8 HC.out).2.2.2.2.2.2.1, (at8 HC.out).2.2.2.2.2.2.2.1⟩⟩
  clear hK K
  (try simp only [Act.put, List.setIfInBounds_toArray, List.set_cons_zero, List.set_cons_succ])
  refine Draw.take_w (i := 17) (v := ?vv28) rfl (by kernel_rfl) (by kernel_rfl) (by kernel_rfl) (fun _ _ _ h => h) (by rfl) ?hy28 (by assumption) ?rest28
  case hy28 => ((intro w hSw); (try dsimp only at hSw); go_simp; (try with_reducible rfl))
  (try simp only [Act.put, List.setIfInBounds_toArray, List.set_cons_zero, List.set_cons_succ])
  refine Draw.take_w (i := 18) (v := ?vv29) rfl (by kernel_rfl) (by kernel_rfl) (by kernel_rfl) (fun _ _ _ h => h) (by rfl) ?hy29 (by assumption) ?rest29
  case hy29 => ((intro w hSw); (try dsimp only at hSw); go_simp; (try with_reducible rfl))
  (try simp only [Act.put, List.setIfInBounds_toArray, List.set_cons_zero, List.set_cons_succ])
  refine Draw.take_w (i := 19) (v := ?vv30) rfl (by kernel_rfl) (by kernel_rfl) (by kernel_rfl) (fun _ _ _ h => h) (by rfl) ?hy30 (by assumption) ?rest30
  case hy30 => ((intro w hSw); (try dsimp only at hSw); go_simp; (try with_reducible rfl))
  (try simp only [Act.put, List.setIfInBounds_toArray, List.set_cons_zero, List.set_cons_succ])
  refine wpAnyH_done (by kernel_rfl) ?_ _
  go_wp2_with (fail)
  go_ret
  exact ⟨rfl, HB.out⟩
theorem gr_sz {k b : ByteArray} (h : gr k b = false) : k.size ≤ 1000000 ∧ b.size ≤ 1000000 := by
  have := of_decide_eq_false h
  omega
theorem RecOrders_walk (ak : ByteArray) (ap al an ad af ax : Int) (ab : ByteArray) (ck : ByteArray) (cp cl cn cd cf cx : Int) (cb : ByteArray) (w : World) : Calls Try.prog 5 #[.agg #[.string ak, .int .u64 ap, .int .u32 al, .int .u8 an, .int .u8 ad, .int .u32 af, .int .u64 ax, .string ab], .agg #[.string ck, .int .u64 cp, .int .u32 cl, .int .u8 cn, .int .u8 cd, .int .u32 cf, .int .u64 cx, .string cb]] w fun e w' => e = .returned (.bool true) ∧ Below w.heap.size w w' := by
  cases hg : (gr ak ab || gr ck cb)
  · obtain ⟨g1, g2⟩ : gr ak ab = false ∧ gr ck cb = false := by simpa using hg
    by_cases h1 : cmpR ap al an ad af ax ab cp cl cn cd cf cx cb = -1
    · exact orders_0 ak ap al an ad af ax ab ck cp cl cn cd cf cx cb w hg (gr_sz g1).2 (gr_sz g2).2 h1
    · exact orders_1 ak ap al an ad af ax ab ck cp cl cn cd cf cx cb w hg (gr_sz g1).2 (gr_sz g2).2 h1
  · exact orders_great ak ap al an ad af ax ab ck cp cl cn cd cf cx cb w hg
end Go.Proofs.Ytlohnhjfdmldnaa.Rec

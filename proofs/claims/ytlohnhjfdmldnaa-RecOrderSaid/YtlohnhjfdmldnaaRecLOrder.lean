/- RecOrder answers true: the walk (own text; printed by wip/tools/gen_reclaws.py, a program of this session). -/
import Derived.Test.YtlohnhjfdmldnaaRecFixed
import Derived.Test.YtlohnhjfdmldnaaRecGreat
import Derived.Test.YtlohnhjfdmldnaaSets
import Derived.Test.YtlohnhjfdmldnaaRecEq
namespace Go.Proofs.Ytlohnhjfdmldnaa.Rec
open Go.Proofs.Ytlohnhjfdmldnaa Go.RowKit Go.Proofs.Ytlohnhjfdmldnaa.Mem Go.Proofs.Ytlohnhjfdmldnaa.Hlc
set_option linter.unusedVariables false
set_option linter.unusedSimpArgs false
theorem order_great (ak : ByteArray) (ap al an ad af ax : Int) (ab : ByteArray) (ck : ByteArray) (cp cl cn cd cf cx : Int) (cb : ByteArray) (zk : ByteArray) (zp zl zn zd zf zx : Int) (zb : ByteArray) (w : World) (hg : (gr ak ab || gr ck cb || gr zk zb) = true) : Calls Try.prog 3 #[.agg #[.string ak, .int .u64 ap, .int .u32 al, .int .u8 an, .int .u8 ad, .int .u32 af, .int .u64 ax, .string ab], .agg #[.string ck, .int .u64 cp, .int .u32 cl, .int .u8 cn, .int .u8 cd, .int .u32 cf, .int .u64 cx, .string cb], .agg #[.string zk, .int .u64 zp, .int .u32 zl, .int .u8 zn, .int .u8 zd, .int .u32 zf, .int .u64 zx, .string zb]] w fun e w' => e = .returned (.bool true) ∧ Below w.heap.size w w' := by
  have HG := Lib.hid (fun b t w h => great3 ak ap al an ad af ax ab ck cp cl cn cd cf cx cb zk zp zl zn zd zf zx zb b t w h)
  rw [hg] at HG
  go_enter Try.func3, Try.ntmps3
  go_wp2_with (fail)
  have hA2 := at_new (((w.alloc (.cells #[.string ak, .int .u64 ap, .int .u32 al, .int .u8 an, .int .u8 ad, .int .u32 af, .int .u64 ax, .string ab] 27)).alloc (.cells #[.string ck, .int .u64 cp, .int .u32 cl, .int .u8 cn, .int .u8 cd, .int .u32 cf, .int .u64 cx, .string cb] 27)).alloc (.cells #[.string zk, .int .u64 zp, .int .u32 zl, .int .u8 zn, .int .u8 zd, .int .u32 zf, .int .u64 zx, .string zb] 27)) #[.string ak, .int .u64 ap, .int .u32 al, .int .u8 an, .int .u8 ad, .int .u32 af, .int .u64 ax, .string ab, .string ck, .int .u64 cp, .int .u32 cl, .int .u8 cn, .int .u8 cd, .int .u32 cf, .int .u64 cx, .string cb, .string zk, .int .u64 zp, .int .u32 zl, .int .u8 zn, .int .u8 zd, .int .u32 zf, .int .u64 zx, .string zb] 27
  have HA := Lib.hid (at_alloc (o := .cells #[.string ak, .int .u64 ap, .int .u32 al, .int .u8 an, .int .u8 ad, .int .u32 af, .int .u64 ax, .string ab, .string ck, .int .u64 cp, .int .u32 cl, .int .u8 cn, .int .u8 cd, .int .u32 cf, .int .u64 cx, .string cb, .string zk, .int .u64 zp, .int .u32 zl, .int .u8 zn, .int .u8 zd, .int .u32 zf, .int .u64 zx, .string zb] 27) (at_alloc (o := .cells #[.string zk, .int .u64 zp, .int .u32 zl, .int .u8 zn, .int .u8 zd, .int .u32 zf, .int .u64 zx, .string zb] 27) (at_alloc (o := .cells #[.string ck, .int .u64 cp, .int .u32 cl, .int .u8 cn, .int .u8 cd, .int .u32 cf, .int .u64 cx, .string cb] 27) (at_new w #[.string ak, .int .u64 ap, .int .u32 al, .int .u8 an, .int .u8 ad, .int .u32 af, .int .u64 ax, .string ab] 27))))
  have HC := Lib.hid (at_alloc (o := .cells #[.string ak, .int .u64 ap, .int .u32 al, .int .u8 an, .int .u8 ad, .int .u32 af, .int .u64 ax, .string ab, .string ck, .int .u64 cp, .int .u32 cl, .int .u8 cn, .int .u8 cd, .int .u32 cf, .int .u64 cx, .string cb, .string zk, .int .u64 zp, .int .u32 zl, .int .u8 zn, .int .u8 zd, .int .u32 zf, .int .u64 zx, .string zb] 27) (at_alloc (o := .cells #[.string zk, .int .u64 zp, .int .u32 zl, .int .u8 zn, .int .u8 zd, .int .u32 zf, .int .u64 zx, .string zb] 27) (at_new (w.alloc (.cells #[.string ak, .int .u64 ap, .int .u32 al, .int .u8 an, .int .u8 ad, .int .u32 af, .int .u64 ax, .string ab] 27)) #[.string ck, .int .u64 cp, .int .u32 cl, .int .u8 cn, .int .u8 cd, .int .u32 cf, .int .u64 cx, .string cb] 27)))
  have HZ := Lib.hid (at_alloc (o := .cells #[.string ak, .int .u64 ap, .int .u32 al, .int .u8 an, .int .u8 ad, .int .u32 af, .int .u64 ax, .string ab, .string ck, .int .u64 cp, .int .u32 cl, .int .u8 cn, .int .u8 cd, .int .u32 cf, .int .u64 cx, .string cb, .string zk, .int .u64 zp, .int .u32 zl, .int .u8 zn, .int .u8 zd, .int .u32 zf, .int .u64 zx, .string zb] 27) (at_new ((w.alloc (.cells #[.string ak, .int .u64 ap, .int .u32 al, .int .u8 an, .int .u8 ad, .int .u32 af, .int .u64 ax, .string ab] 27)).alloc (.cells #[.string ck, .int .u64 cp, .int .u32 cl, .int .u8 cn, .int .u8 cd, .int .u32 cf, .int .u64 cx, .string cb] 27)) #[.string zk, .int .u64 zp, .int .u32 zl, .int .u8 zn, .int .u8 zd, .int .u32 zf, .int .u64 zx, .string zb] 27))
  have HB := Lib.hid (below_al (o := .cells #[.string ak, .int .u64 ap, .int .u32 al, .int .u8 an, .int .u8 ad, .int .u32 af, .int .u64 ax, .string ab, .string ck, .int .u64 cp, .int .u32 cl, .int .u8 cn, .int .u8 cd, .int .u32 cf, .int .u64 cx, .string cb, .string zk, .int .u64 zp, .int .u32 zl, .int .u8 zn, .int .u8 zd, .int .u32 zf, .int .u64 zx, .string zb] 27) (below_al (o := .cells #[.string zk, .int .u64 zp, .int .u32 zl, .int .u8 zn, .int .u8 zd, .int .u32 zf, .int .u64 zx, .string zb] 27) (below_al (o := .cells #[.string ck, .int .u64 cp, .int .u32 cl, .int .u8 cn, .int .u8 cd, .int .u32 cf, .int .u64 cx, .string cb] 27) (below_al (o := .cells #[.string ak, .int .u64 ap, .int .u32 al, .int .u8 an, .int .u8 ad, .int .u32 af, .int .u64 ax, .string ab] 27) (Below.refl w.heap.size w)))))
  simp only [World.size_alloc] at hA2 HC HZ
  refine (HG.out (w.heap.size + 1 + 1 + 1) _ _ hA2).mono ?_
  rintro e w1 ⟨rfl, b1⟩
  clear hA2
  replace HA := Lib.hid (at_below HA.out b1)
  replace HC := Lib.hid (at_below HC.out b1)
  replace HZ := Lib.hid (at_below HZ.out b1)
  replace HB := Lib.hid (below_on HB.out b1)
  clear b1
  go_wp2_with (fail)
  refine (fixed_any _).mono ?_
  rintro e w2 ⟨rfl, b2⟩
  go_wp2_with (fail)
  go_ret
  exact ⟨rfl, below_on HB.out b2⟩
set_option maxRecDepth 100000 in
set_option maxHeartbeats 1600000 in
theorem order_t (ak : ByteArray) (ap al an ad af ax : Int) (ab : ByteArray) (ck : ByteArray) (cp cl cn cd cf cx : Int) (cb : ByteArray) (zk : ByteArray) (zp zl zn zd zf zx : Int) (zb : ByteArray) (w : World) (hg : (gr ak ab || gr ck cb || gr zk zb) = false)  (hh : 0 < cmpR ap al an ad af ax ab cp cl cn cd cf cx cb) : Calls Try.prog 3 #[.agg #[.string ak, .int .u64 ap, .int .u32 al, .int .u8 an, .int .u8 ad, .int .u32 af, .int .u64 ax, .string ab], .agg #[.string ck, .int .u64 cp, .int .u32 cl, .int .u8 cn, .int .u8 cd, .int .u32 cf, .int .u64 cx, .string cb], .agg #[.string zk, .int .u64 zp, .int .u32 zl, .int .u8 zn, .int .u8 zd, .int .u32 zf, .int .u64 zx, .string zb]] w fun e w' => e = .returned (.bool true) ∧ Below w.heap.size w w' := by
  have HG := Lib.hid (fun b t w h => great3 ak ap al an ad af ax ab ck cp cl cn cd cf cx cb zk zp zl zn zd zf zx zb b t w h)
  rw [hg] at HG
  have hn : cmpR cp cl cn cd cf cx cb ap al an ad af ax ab = - cmpR ap al an ad af ax ab cp cl cn cd cf cx cb := cmp2_neg ⟨ap, al, an, ad, af, ax, ab⟩ ⟨cp, cl, cn, cd, cf, cx, cb⟩
  have g4 := fun w => rcompare_any ck cp cl cn cd cf cx cb ak ap al an ad af ax ab w
  rw [hn] at g4
  have H0 := Lib.hid fixed_any
  have H1 := Lib.hid (fun w => rcompare_any ak ap al an ad af ax ab ck cp cl cn cd cf cx cb w)
  have H2 := Lib.hid (fun w => rcompare_any ck cp cl cn cd cf cx cb zk zp zl zn zd zf zx zb w)
  have H3 := Lib.hid (fun w => rcompare_any ak ap al an ad af ax ab zk zp zl zn zd zf zx zb w)
  have H4 := Lib.hid g4
  clear g4 hn
  have hx3 : cmpR ap al an ad af ax ab cp cl cn cd cf cx cb = -1 ∨ cmpR ap al an ad af ax ab cp cl cn cd cf cx cb = 0 ∨ cmpR ap al an ad af ax ab cp cl cn cd cf cx cb = 1 := cmp2_three ⟨ap, al, an, ad, af, ax, ab⟩ ⟨cp, cl, cn, cd, cf, cx, cb⟩
  have hq := fun w => eqRec_cmp w ak ap al an ad af ax ab cp cl cn cd cf cx cb
  generalize cmpR ap al an ad af ax ab cp cl cn cd cf cx cb = x at *
  generalize cmpR cp cl cn cd cf cx cb zp zl zn zd zf zx zb = y at *
  generalize cmpR ap al an ad af ax ab zp zl zn zd zf zx zb = z at *
  have hwr : IntKind.i64.wrap (-x) = -x := by rcases hx3 with h | h | h <;> rw [h] <;> decide
  clear hx3
  rw [show (x == 0) = false from beq_eq_false_iff_ne.2 (by omega)] at hq
  have hq2 := fun w => run_eql_struct (P := Try.prog) (w := w) 27 #[.string ak, .int .u64 ap, .int .u32 al, .int .u8 an, .int .u8 ad, .int .u32 af, .int .u64 ax, .string ab] #[.string ak, .int .u64 cp, .int .u32 cl, .int .u8 cn, .int .u8 cd, .int .u32 cf, .int .u64 cx, .string cb]
  simp only [hq, Result.andThen] at hq2
  have k0 : (x == 0) = false := beq_eq_false_iff_ne.2 (by omega)
  have c0 : decide (0 < x) = true := decide_eq_true (by omega)
  clear hh
  go_enter Try.func3, Try.ntmps3
  go_wp2_with (fail)
  have hA2 := at_new (((w.alloc (.cells #[.string ak, .int .u64 ap, .int .u32 al, .int .u8 an, .int .u8 ad, .int .u32 af, .int .u64 ax, .string ab] 27)).alloc (.cells #[.string ck, .int .u64 cp, .int .u32 cl, .int .u8 cn, .int .u8 cd, .int .u32 cf, .int .u64 cx, .string cb] 27)).alloc (.cells #[.string zk, .int .u64 zp, .int .u32 zl, .int .u8 zn, .int .u8 zd, .int .u32 zf, .int .u64 zx, .string zb] 27)) #[.string ak, .int .u64 ap, .int .u32 al, .int .u8 an, .int .u8 ad, .int .u32 af, .int .u64 ax, .string ab, .string ck, .int .u64 cp, .int .u32 cl, .int .u8 cn, .int .u8 cd, .int .u32 cf, .int .u64 cx, .string cb, .string zk, .int .u64 zp, .int .u32 zl, .int .u8 zn, .int .u8 zd, .int .u32 zf, .int .u64 zx, .string zb] 27
  have HA := Lib.hid (at_alloc (o := .cells #[.string ak, .int .u64 ap, .int .u32 al, .int .u8 an, .int .u8 ad, .int .u32 af, .int .u64 ax, .string ab, .string ck, .int .u64 cp, .int .u32 cl, .int .u8 cn, .int .u8 cd, .int .u32 cf, .int .u64 cx, .string cb, .string zk, .int .u64 zp, .int .u32 zl, .int .u8 zn, .int .u8 zd, .int .u32 zf, .int .u64 zx, .string zb] 27) (at_alloc (o := .cells #[.string zk, .int .u64 zp, .int .u32 zl, .int .u8 zn, .int .u8 zd, .int .u32 zf, .int .u64 zx, .string zb] 27) (at_alloc (o := .cells #[.string ck, .int .u64 cp, .int .u32 cl, .int .u8 cn, .int .u8 cd, .int .u32 cf, .int .u64 cx, .string cb] 27) (at_new w #[.string ak, .int .u64 ap, .int .u32 al, .int .u8 an, .int .u8 ad, .int .u32 af, .int .u64 ax, .string ab] 27))))
  have HC := Lib.hid (at_alloc (o := .cells #[.string ak, .int .u64 ap, .int .u32 al, .int .u8 an, .int .u8 ad, .int .u32 af, .int .u64 ax, .string ab, .string ck, .int .u64 cp, .int .u32 cl, .int .u8 cn, .int .u8 cd, .int .u32 cf, .int .u64 cx, .string cb, .string zk, .int .u64 zp, .int .u32 zl, .int .u8 zn, .int .u8 zd, .int .u32 zf, .int .u64 zx, .string zb] 27) (at_alloc (o := .cells #[.string zk, .int .u64 zp, .int .u32 zl, .int .u8 zn, .int .u8 zd, .int .u32 zf, .int .u64 zx, .string zb] 27) (at_new (w.alloc (.cells #[.string ak, .int .u64 ap, .int .u32 al, .int .u8 an, .int .u8 ad, .int .u32 af, .int .u64 ax, .string ab] 27)) #[.string ck, .int .u64 cp, .int .u32 cl, .int .u8 cn, .int .u8 cd, .int .u32 cf, .int .u64 cx, .string cb] 27)))
  have HZ := Lib.hid (at_alloc (o := .cells #[.string ak, .int .u64 ap, .int .u32 al, .int .u8 an, .int .u8 ad, .int .u32 af, .int .u64 ax, .string ab, .string ck, .int .u64 cp, .int .u32 cl, .int .u8 cn, .int .u8 cd, .int .u32 cf, .int .u64 cx, .string cb, .string zk, .int .u64 zp, .int .u32 zl, .int .u8 zn, .int .u8 zd, .int .u32 zf, .int .u64 zx, .string zb] 27) (at_new ((w.alloc (.cells #[.string ak, .int .u64 ap, .int .u32 al, .int .u8 an, .int .u8 ad, .int .u32 af, .int .u64 ax, .string ab] 27)).alloc (.cells #[.string ck, .int .u64 cp, .int .u32 cl, .int .u8 cn, .int .u8 cd, .int .u32 cf, .int .u64 cx, .string cb] 27)) #[.string zk, .int .u64 zp, .int .u32 zl, .int .u8 zn, .int .u8 zd, .int .u32 zf, .int .u64 zx, .string zb] 27))
  have HB := Lib.hid (below_al (o := .cells #[.string ak, .int .u64 ap, .int .u32 al, .int .u8 an, .int .u8 ad, .int .u32 af, .int .u64 ax, .string ab, .string ck, .int .u64 cp, .int .u32 cl, .int .u8 cn, .int .u8 cd, .int .u32 cf, .int .u64 cx, .string cb, .string zk, .int .u64 zp, .int .u32 zl, .int .u8 zn, .int .u8 zd, .int .u32 zf, .int .u64 zx, .string zb] 27) (below_al (o := .cells #[.string zk, .int .u64 zp, .int .u32 zl, .int .u8 zn, .int .u8 zd, .int .u32 zf, .int .u64 zx, .string zb] 27) (below_al (o := .cells #[.string ck, .int .u64 cp, .int .u32 cl, .int .u8 cn, .int .u8 cd, .int .u32 cf, .int .u64 cx, .string cb] 27) (below_al (o := .cells #[.string ak, .int .u64 ap, .int .u32 al, .int .u8 an, .int .u8 ad, .int .u32 af, .int .u64 ax, .string ab] 27) (Below.refl w.heap.size w)))))
  simp only [World.size_alloc] at hA2 HC HZ
  refine (HG.out (w.heap.size + 1 + 1 + 1) _ _ hA2).mono ?_
  rintro e w1 ⟨rfl, b1⟩
  clear hA2
  replace HA := Lib.hid (at_below HA.out b1)
  replace HC := Lib.hid (at_below HC.out b1)
  replace HZ := Lib.hid (at_below HZ.out b1)
  replace HB := Lib.hid (below_on HB.out b1)
  clear b1
  go_wp2_with (fail)
  replace HA := Lib.hid (at_drew HA.out)
  replace HC := Lib.hid (at_drew HC.out)
  replace HZ := Lib.hid (at_drew HZ.out)
  replace HB := Lib.hid (Below.drew HB.out)
  refine wp_region_held_drew (S := (fun W => (W.cell? ⟨w.heap.size, 0, none⟩ = some (.string ak) ∧ W.cell? ⟨w.heap.size, 1, none⟩ = some (.int .u64 ap) ∧ W.cell? ⟨w.heap.size, 2, none⟩ = some (.int .u32 al) ∧ W.cell? ⟨w.heap.size, 3, none⟩ = some (.int .u8 an) ∧ W.cell? ⟨w.heap.size, 4, none⟩ = some (.int .u8 ad) ∧ W.cell? ⟨w.heap.size, 5, none⟩ = some (.int .u32 af) ∧ W.cell? ⟨w.heap.size, 6, none⟩ = some (.int .u64 ax) ∧ W.cell? ⟨w.heap.size, 7, none⟩ = some (.string ab)) ∧ (W.cell? ⟨(w.heap.size + 1), 0, none⟩ = some (.string ck) ∧ W.cell? ⟨(w.heap.size + 1), 1, none⟩ = some (.int .u64 cp) ∧ W.cell? ⟨(w.heap.size + 1), 2, none⟩ = some (.int .u32 cl) ∧ W.cell? ⟨(w.heap.size + 1), 3, none⟩ = some (.int .u8 cn) ∧ W.cell? ⟨(w.heap.size + 1), 4, none⟩ = some (.int .u8 cd) ∧ W.cell? ⟨(w.heap.size + 1), 5, none⟩ = some (.int .u32 cf) ∧ W.cell? ⟨(w.heap.size + 1), 6, none⟩ = some (.int .u64 cx) ∧ W.cell? ⟨(w.heap.size + 1), 7, none⟩ = some (.string cb)) ∧ (W.cell? ⟨(w.heap.size + 1 + 1), 0, none⟩ = some (.string zk) ∧ W.cell? ⟨(w.heap.size + 1 + 1), 1, none⟩ = some (.int .u64 zp) ∧ W.cell? ⟨(w.heap.size + 1 + 1), 2, none⟩ = some (.int .u32 zl) ∧ W.cell? ⟨(w.heap.size + 1 + 1), 3, none⟩ = some (.int .u8 zn) ∧ W.cell? ⟨(w.heap.size + 1 + 1), 4, none⟩ = some (.int .u8 zd) ∧ W.cell? ⟨(w.heap.size + 1 + 1), 5, none⟩ = some (.int .u32 zf) ∧ W.cell? ⟨(w.heap.size + 1 + 1), 6, none⟩ = some (.int .u64 zx) ∧ W.cell? ⟨(w.heap.size + 1 + 1), 7, none⟩ = some (.string zb)))) (by kernel_rfl) ?_ (fun hHeld => ?_)
  · (try dsimp only)
    exact ⟨⟨(at8 HA.out).1, (at8 HA.out).2.1, (at8 HA.out).2.2.1, (at8 HA.out).2.2.2.1, (at8 HA.out).2.2.2.2.1, (at8 HA.out).2.2.2.2.2.1, (at8 HA.out).2.2.2.2.2.2.1, (at8 HA.out).2.2.2.2.2.2.2.1⟩, ⟨(at8 HC.out).1, (at8 HC.out).2.1, (at8 HC.out).2.2.1, (at8 HC.out).2.2.2.1, (at8 HC.out).2.2.2.2.1, (at8 HC.out).2.2.2.2.2.1, (at8 HC.out).2.2.2.2.2.2.1, (at8 HC.out).2.2.2.2.2.2.2.1⟩, ⟨(at8 HZ.out).1, (at8 HZ.out).2.1, (at8 HZ.out).2.2.1, (at8 HZ.out).2.2.2.1, (at8 HZ.out).2.2.2.2.1, (at8 HZ.out).2.2.2.2.2.1, (at8 HZ.out).2.2.2.2.2.2.1, (at8 HZ.out).2.2.2.2.2.2.2.1⟩⟩
  refine Draw.take_w (i := 0) (v := ?vv31) rfl (by kernel_rfl) (by kernel_rfl) (by kernel_rfl) (fun _ _ _ h => h) (by rfl) ?hy31 (by assumption) ?rest31
  case hy31 => ((intro w hSw); (try dsimp only at hSw); go_simp; (try with_reducible rfl))
  (try simp only [Act.put, List.setIfInBounds_toArray, List.set_cons_zero, List.set_cons_succ])
  refine Draw.take_w (i := 1) (v := ?vv32) rfl (by kernel_rfl) (by kernel_rfl) (by kernel_rfl) (fun _ _ _ h => h) (by rfl) ?hy32 (by assumption) ?rest32
  case hy32 => ((intro w hSw); (try dsimp only at hSw); go_simp; (try with_reducible rfl))
  (try simp only [Act.put, List.setIfInBounds_toArray, List.set_cons_zero, List.set_cons_succ])
  refine Draw.take_w (i := 3) (v := ?vv33) rfl (by kernel_rfl) (by kernel_rfl) (by kernel_rfl) (fun _ _ _ h => h) (by rfl) ?hy33 (by assumption) ?rest33
  case hy33 => ((intro w hSw); (try dsimp only at hSw); go_simp; (try with_reducible rfl))
  (try simp only [Act.put, List.setIfInBounds_toArray, List.set_cons_zero, List.set_cons_succ])
  refine Draw.take_w (i := 4) (v := ?vv34) rfl (by kernel_rfl) (by kernel_rfl) (by kernel_rfl) (fun _ _ _ h => h) (by rfl) ?hy34 (by assumption) ?rest34
  case hy34 => ((intro w hSw); (try dsimp only at hSw); go_simp; (try with_reducible rfl))
  (try simp only [Act.put, List.setIfInBounds_toArray, List.set_cons_zero, List.set_cons_succ])
  refine Draw.take_w (i := 6) (v := ?vv35) rfl (by kernel_rfl) (by kernel_rfl) (by kernel_rfl) (fun _ _ _ h => h) (by rfl) ?hy35 (by assumption) ?rest35
  case hy35 => ((intro w hSw); (try dsimp only at hSw); go_simp; (try with_reducible rfl))
  (try simp only [Act.put, List.setIfInBounds_toArray, List.set_cons_zero, List.set_cons_succ])
  refine Draw.take_w (i := 7) (v := ?vv36) rfl (by kernel_rfl) (by kernel_rfl) (by kernel_rfl) (fun _ _ _ h => h) (by rfl) ?hy36 (by assumption) ?rest36
  case hy36 => ((intro w hSw); (try dsimp only at hSw); go_simp; (try with_reducible rfl))
  (try simp only [Act.put, List.setIfInBounds_toArray, List.set_cons_zero, List.set_cons_succ])
  refine Draw.call_d (i := 2) rfl (by kernel_rfl) (by rfl) (fun K hK => ?_)
  go_simp
  refine (H1.out _).mono ?_
  rintro e w2 ⟨rfl, b2⟩
  replace HA := Lib.hid (at_below HA.out b2)
  replace HC := Lib.hid (at_below HC.out b2)
  replace HZ := Lib.hid (at_below HZ.out b2)
  replace HB := Lib.hid (below_on HB.out b2)
  clear b2
  refine hK.out _ _ ?_ (fun hHeld => ?_)
  · (try dsimp only)
    exact ⟨⟨(at8 HA.out).1, (at8 HA.out).2.1, (at8 HA.out).2.2.1, (at8 HA.out).2.2.2.1, (at8 HA.out).2.2.2.2.1, (at8 HA.out).2.2.2.2.2.1, (at8 HA.out).2.2.2.2.2.2.1, (at8 HA.out).2.2.2.2.2.2.2.1⟩, ⟨(at8 HC.out).1, (at8 HC.out).2.1, (at8 HC.out).2.2.1, (at8 HC.out).2.2.2.1, (at8 HC.out).2.2.2.2.1, (at8 HC.out).2.2.2.2.2.1, (at8 HC.out).2.2.2.2.2.2.1, (at8 HC.out).2.2.2.2.2.2.2.1⟩, ⟨(at8 HZ.out).1, (at8 HZ.out).2.1, (at8 HZ.out).2.2.1, (at8 HZ.out).2.2.2.1, (at8 HZ.out).2.2.2.2.1, (at8 HZ.out).2.2.2.2.2.1, (at8 HZ.out).2.2.2.2.2.2.1, (at8 HZ.out).2.2.2.2.2.2.2.1⟩⟩
  clear hK K
  (try simp only [Act.put, List.setIfInBounds_toArray, List.set_cons_zero, List.set_cons_succ])
  refine Draw.call_d (i := 5) rfl (by kernel_rfl) (by rfl) (fun K hK => ?_)
  go_simp
  refine (H2.out _).mono ?_
  rintro e w3 ⟨rfl, b2⟩
  replace HA := Lib.hid (at_below HA.out b2)
  replace HC := Lib.hid (at_below HC.out b2)
  replace HZ := Lib.hid (at_below HZ.out b2)
  replace HB := Lib.hid (below_on HB.out b2)
  clear b2
  refine hK.out _ _ ?_ (fun hHeld => ?_)
  · (try dsimp only)
    exact ⟨⟨(at8 HA.out).1, (at8 HA.out).2.1, (at8 HA.out).2.2.1, (at8 HA.out).2.2.2.1, (at8 HA.out).2.2.2.2.1, (at8 HA.out).2.2.2.2.2.1, (at8 HA.out).2.2.2.2.2.2.1, (at8 HA.out).2.2.2.2.2.2.2.1⟩, ⟨(at8 HC.out).1, (at8 HC.out).2.1, (at8 HC.out).2.2.1, (at8 HC.out).2.2.2.1, (at8 HC.out).2.2.2.2.1, (at8 HC.out).2.2.2.2.2.1, (at8 HC.out).2.2.2.2.2.2.1, (at8 HC.out).2.2.2.2.2.2.2.1⟩, ⟨(at8 HZ.out).1, (at8 HZ.out).2.1, (at8 HZ.out).2.2.1, (at8 HZ.out).2.2.2.1, (at8 HZ.out).2.2.2.2.1, (at8 HZ.out).2.2.2.2.2.1, (at8 HZ.out).2.2.2.2.2.2.1, (at8 HZ.out).2.2.2.2.2.2.2.1⟩⟩
  clear hK K
  (try simp only [Act.put, List.setIfInBounds_toArray, List.set_cons_zero, List.set_cons_succ])
  refine Draw.call_d (i := 8) rfl (by kernel_rfl) (by rfl) (fun K hK => ?_)
  go_simp
  refine (H3.out _).mono ?_
  rintro e w4 ⟨rfl, b2⟩
  replace HA := Lib.hid (at_below HA.out b2)
  replace HC := Lib.hid (at_below HC.out b2)
  replace HZ := Lib.hid (at_below HZ.out b2)
  replace HB := Lib.hid (below_on HB.out b2)
  clear b2
  refine hK.out _ _ ?_ (fun hHeld => ?_)
  · (try dsimp only)
    exact ⟨⟨(at8 HA.out).1, (at8 HA.out).2.1, (at8 HA.out).2.2.1, (at8 HA.out).2.2.2.1, (at8 HA.out).2.2.2.2.1, (at8 HA.out).2.2.2.2.2.1, (at8 HA.out).2.2.2.2.2.2.1, (at8 HA.out).2.2.2.2.2.2.2.1⟩, ⟨(at8 HC.out).1, (at8 HC.out).2.1, (at8 HC.out).2.2.1, (at8 HC.out).2.2.2.1, (at8 HC.out).2.2.2.2.1, (at8 HC.out).2.2.2.2.2.1, (at8 HC.out).2.2.2.2.2.2.1, (at8 HC.out).2.2.2.2.2.2.2.1⟩, ⟨(at8 HZ.out).1, (at8 HZ.out).2.1, (at8 HZ.out).2.2.1, (at8 HZ.out).2.2.2.1, (at8 HZ.out).2.2.2.2.1, (at8 HZ.out).2.2.2.2.2.1, (at8 HZ.out).2.2.2.2.2.2.1, (at8 HZ.out).2.2.2.2.2.2.2.1⟩⟩
  clear hK K
  (try simp only [Act.put, List.setIfInBounds_toArray, List.set_cons_zero, List.set_cons_succ])
  refine Draw.take_w (i := 9) (v := ?vv37) rfl (by kernel_rfl) (by kernel_rfl) (by kernel_rfl) (fun _ _ _ h => h) (by rfl) ?hy37 (by assumption) ?rest37
  case hy37 => ((intro w hSw); (try dsimp only at hSw); go_simp; (try with_reducible rfl))
  (try simp only [Act.put, List.setIfInBounds_toArray, List.set_cons_zero, List.set_cons_succ])
  refine Draw.take_w (i := 10) (v := ?vv38) rfl (by kernel_rfl) (by kernel_rfl) (by kernel_rfl) (fun _ _ _ h => h) (by rfl) ?hy38 (by assumption) ?rest38
  case hy38 => ((intro w hSw); (try dsimp only at hSw); go_simp; (try with_reducible rfl))
  (try simp only [Act.put, List.setIfInBounds_toArray, List.set_cons_zero, List.set_cons_succ])
  refine Draw.take_w (i := 11) (v := ?vv39) rfl (by kernel_rfl) (by kernel_rfl) (by kernel_rfl) (fun _ _ _ h => h) (by rfl) ?hy39 (by assumption) ?rest39
  case hy39 => ((intro w hSw); (try dsimp only at hSw); go_simp; (try with_reducible rfl))
  (try simp only [Act.put, List.setIfInBounds_toArray, List.set_cons_zero, List.set_cons_succ])
  refine wpAnyH_done (by kernel_rfl) ?_ _
  obtain ⟨x0, x1, x2, x3, x4, x5, x6, x7, -⟩ := at8 HA.out
  obtain ⟨y0, y1, y2, y3, y4, y5, y6, y7, -⟩ := at8 HC.out
  have q1 := At.lt HA.out
  have q2 := At.lt HC.out
  go_upto_region 6 with (fail)
  have HD := Lib.hid (at_new w4 #[.string ak, .int .u64 cp, .int .u32 cl, .int .u8 cn, .int .u8 cd, .int .u32 cf, .int .u64 cx, .string cb] 27)
  replace HA := Lib.hid (at_alloc (o := .cells #[.string ak, .int .u64 cp, .int .u32 cl, .int .u8 cn, .int .u8 cd, .int .u32 cf, .int .u64 cx, .string cb] 27) HA.out)
  replace HC := Lib.hid (at_alloc (o := .cells #[.string ak, .int .u64 cp, .int .u32 cl, .int .u8 cn, .int .u8 cd, .int .u32 cf, .int .u64 cx, .string cb] 27) HC.out)
  replace HB := Lib.hid (below_al (o := .cells #[.string ak, .int .u64 cp, .int .u32 cl, .int .u8 cn, .int .u8 cd, .int .u32 cf, .int .u64 cx, .string cb] 27) HB.out)
  clear HZ x0 x1 x2 x3 x4 x5 x6 x7 y0 y1 y2 y3 y4 y5 y6 y7 q1 q2
  generalize w4.alloc (.cells #[.string ak, .int .u64 cp, .int .u32 cl, .int .u8 cn, .int .u8 cd, .int .u32 cf, .int .u64 cx, .string cb] 27) = w5 at *
  generalize w4.heap.size = v at *
  go_wp2_with (fail)
  refine (H0.out _).mono ?_
  rintro e w6 ⟨rfl, b2⟩
  replace HA := Lib.hid (at_below HA.out b2)
  replace HC := Lib.hid (at_below HC.out b2)
  replace HD := Lib.hid (at_below HD.out b2)
  replace HB := Lib.hid (below_on HB.out b2)
  clear b2
  obtain ⟨x0, x1, x2, x3, x4, x5, x6, x7, -⟩ := at8 HA.out
  obtain ⟨y0, y1, y2, y3, y4, y5, y6, y7, -⟩ := at8 HC.out
  go_wp2_with (fail)
  clear x0 x1 x2 x3 x4 x5 x6 x7 y0 y1 y2 y3 y4 y5 y6 y7
  refine (H4.out _).mono ?_
  rintro e w7 ⟨rfl, b2⟩
  replace HA := Lib.hid (at_below HA.out b2)
  replace HC := Lib.hid (at_below HC.out b2)
  replace HD := Lib.hid (at_below HD.out b2)
  replace HB := Lib.hid (below_on HB.out b2)
  clear b2
  obtain ⟨x0, x1, x2, x3, x4, x5, x6, x7, -⟩ := at8 HA.out
  obtain ⟨y0, y1, y2, y3, y4, y5, y6, y7, -⟩ := at8 HD.out
  go_wp2_with (fail)
  go_ret
  exact ⟨rfl, HB.out⟩
set_option maxRecDepth 100000 in
set_option maxHeartbeats 1600000 in
theorem order_u (ak : ByteArray) (ap al an ad af ax : Int) (ab : ByteArray) (ck : ByteArray) (cp cl cn cd cf cx : Int) (cb : ByteArray) (zk : ByteArray) (zp zl zn zd zf zx : Int) (zb : ByteArray) (w : World) (hg : (gr ak ab || gr ck cb || gr zk zb) = false)  (hh : cmpR ap al an ad af ax ab cp cl cn cd cf cx cb < 0 ∧ 0 < cmpR cp cl cn cd cf cx cb zp zl zn zd zf zx zb) : Calls Try.prog 3 #[.agg #[.string ak, .int .u64 ap, .int .u32 al, .int .u8 an, .int .u8 ad, .int .u32 af, .int .u64 ax, .string ab], .agg #[.string ck, .int .u64 cp, .int .u32 cl, .int .u8 cn, .int .u8 cd, .int .u32 cf, .int .u64 cx, .string cb], .agg #[.string zk, .int .u64 zp, .int .u32 zl, .int .u8 zn, .int .u8 zd, .int .u32 zf, .int .u64 zx, .string zb]] w fun e w' => e = .returned (.bool true) ∧ Below w.heap.size w w' := by
  have HG := Lib.hid (fun b t w h => great3 ak ap al an ad af ax ab ck cp cl cn cd cf cx cb zk zp zl zn zd zf zx zb b t w h)
  rw [hg] at HG
  have hn : cmpR cp cl cn cd cf cx cb ap al an ad af ax ab = - cmpR ap al an ad af ax ab cp cl cn cd cf cx cb := cmp2_neg ⟨ap, al, an, ad, af, ax, ab⟩ ⟨cp, cl, cn, cd, cf, cx, cb⟩
  have g4 := fun w => rcompare_any ck cp cl cn cd cf cx cb ak ap al an ad af ax ab w
  rw [hn] at g4
  have H0 := Lib.hid fixed_any
  have H1 := Lib.hid (fun w => rcompare_any ak ap al an ad af ax ab ck cp cl cn cd cf cx cb w)
  have H2 := Lib.hid (fun w => rcompare_any ck cp cl cn cd cf cx cb zk zp zl zn zd zf zx zb w)
  have H3 := Lib.hid (fun w => rcompare_any ak ap al an ad af ax ab zk zp zl zn zd zf zx zb w)
  have H4 := Lib.hid g4
  clear g4 hn
  have hx3 : cmpR ap al an ad af ax ab cp cl cn cd cf cx cb = -1 ∨ cmpR ap al an ad af ax ab cp cl cn cd cf cx cb = 0 ∨ cmpR ap al an ad af ax ab cp cl cn cd cf cx cb = 1 := cmp2_three ⟨ap, al, an, ad, af, ax, ab⟩ ⟨cp, cl, cn, cd, cf, cx, cb⟩
  have hq := fun w => eqRec_cmp w ak ap al an ad af ax ab cp cl cn cd cf cx cb
  generalize cmpR ap al an ad af ax ab cp cl cn cd cf cx cb = x at *
  generalize cmpR cp cl cn cd cf cx cb zp zl zn zd zf zx zb = y at *
  generalize cmpR ap al an ad af ax ab zp zl zn zd zf zx zb = z at *
  have hwr : IntKind.i64.wrap (-x) = -x := by rcases hx3 with h | h | h <;> rw [h] <;> decide
  clear hx3
  rw [show (x == 0) = false from beq_eq_false_iff_ne.2 (by omega)] at hq
  have hq2 := fun w => run_eql_struct (P := Try.prog) (w := w) 27 #[.string ak, .int .u64 ap, .int .u32 al, .int .u8 an, .int .u8 ad, .int .u32 af, .int .u64 ax, .string ab] #[.string ak, .int .u64 cp, .int .u32 cl, .int .u8 cn, .int .u8 cd, .int .u32 cf, .int .u64 cx, .string cb]
  simp only [hq, Result.andThen] at hq2
  have k0 : (x == 0) = false := beq_eq_false_iff_ne.2 (by omega)
  have c0 : decide (0 < x) = false := decide_eq_false (by omega)
  have c1 : decide (0 < y) = true := decide_eq_true (by omega)
  clear hh
  go_enter Try.func3, Try.ntmps3
  go_wp2_with (fail)
  have hA2 := at_new (((w.alloc (.cells #[.string ak, .int .u64 ap, .int .u32 al, .int .u8 an, .int .u8 ad, .int .u32 af, .int .u64 ax, .string ab] 27)).alloc (.cells #[.string ck, .int .u64 cp, .int .u32 cl, .int .u8 cn, .int .u8 cd, .int .u32 cf, .int .u64 cx, .string cb] 27)).alloc (.cells #[.string zk, .int .u64 zp, .int .u32 zl, .int .u8 zn, .int .u8 zd, .int .u32 zf, .int .u64 zx, .string zb] 27)) #[.string ak, .int .u64 ap, .int .u32 al, .int .u8 an, .int .u8 ad, .int .u32 af, .int .u64 ax, .string ab, .string ck, .int .u64 cp, .int .u32 cl, .int .u8 cn, .int .u8 cd, .int .u32 cf, .int .u64 cx, .string cb, .string zk, .int .u64 zp, .int .u32 zl, .int .u8 zn, .int .u8 zd, .int .u32 zf, .int .u64 zx, .string zb] 27
  have HA := Lib.hid (at_alloc (o := .cells #[.string ak, .int .u64 ap, .int .u32 al, .int .u8 an, .int .u8 ad, .int .u32 af, .int .u64 ax, .string ab, .string ck, .int .u64 cp, .int .u32 cl, .int .u8 cn, .int .u8 cd, .int .u32 cf, .int .u64 cx, .string cb, .string zk, .int .u64 zp, .int .u32 zl, .int .u8 zn, .int .u8 zd, .int .u32 zf, .int .u64 zx, .string zb] 27) (at_alloc (o := .cells #[.string zk, .int .u64 zp, .int .u32 zl, .int .u8 zn, .int .u8 zd, .int .u32 zf, .int .u64 zx, .string zb] 27) (at_alloc (o := .cells #[.string ck, .int .u64 cp, .int .u32 cl, .int .u8 cn, .int .u8 cd, .int .u32 cf, .int .u64 cx, .string cb] 27) (at_new w #[.string ak, .int .u64 ap, .int .u32 al, .int .u8 an, .int .u8 ad, .int .u32 af, .int .u64 ax, .string ab] 27))))
  have HC := Lib.hid (at_alloc (o := .cells #[.string ak, .int .u64 ap, .int .u32 al, .int .u8 an, .int .u8 ad, .int .u32 af, .int .u64 ax, .string ab, .string ck, .int .u64 cp, .int .u32 cl, .int .u8 cn, .int .u8 cd, .int .u32 cf, .int .u64 cx, .string cb, .string zk, .int .u64 zp, .int .u32 zl, .int .u8 zn, .int .u8 zd, .int .u32 zf, .int .u64 zx, .string zb] 27) (at_alloc (o := .cells #[.string zk, .int .u64 zp, .int .u32 zl, .int .u8 zn, .int .u8 zd, .int .u32 zf, .int .u64 zx, .string zb] 27) (at_new (w.alloc (.cells #[.string ak, .int .u64 ap, .int .u32 al, .int .u8 an, .int .u8 ad, .int .u32 af, .int .u64 ax, .string ab] 27)) #[.string ck, .int .u64 cp, .int .u32 cl, .int .u8 cn, .int .u8 cd, .int .u32 cf, .int .u64 cx, .string cb] 27)))
  have HZ := Lib.hid (at_alloc (o := .cells #[.string ak, .int .u64 ap, .int .u32 al, .int .u8 an, .int .u8 ad, .int .u32 af, .int .u64 ax, .string ab, .string ck, .int .u64 cp, .int .u32 cl, .int .u8 cn, .int .u8 cd, .int .u32 cf, .int .u64 cx, .string cb, .string zk, .int .u64 zp, .int .u32 zl, .int .u8 zn, .int .u8 zd, .int .u32 zf, .int .u64 zx, .string zb] 27) (at_new ((w.alloc (.cells #[.string ak, .int .u64 ap, .int .u32 al, .int .u8 an, .int .u8 ad, .int .u32 af, .int .u64 ax, .string ab] 27)).alloc (.cells #[.string ck, .int .u64 cp, .int .u32 cl, .int .u8 cn, .int .u8 cd, .int .u32 cf, .int .u64 cx, .string cb] 27)) #[.string zk, .int .u64 zp, .int .u32 zl, .int .u8 zn, .int .u8 zd, .int .u32 zf, .int .u64 zx, .string zb] 27))
  have HB := Lib.hid (below_al (o := .cells #[.string ak, .int .u64 ap, .int .u32 al, .int .u8 an, .int .u8 ad, .int .u32 af, .int .u64 ax, .string ab, .string ck, .int .u64 cp, .int .u32 cl, .int .u8 cn, .int .u8 cd, .int .u32 cf, .int .u64 cx, .string cb, .string zk, .int .u64 zp, .int .u32 zl, .int .u8 zn, .int .u8 zd, .int .u32 zf, .int .u64 zx, .string zb] 27) (below_al (o := .cells #[.string zk, .int .u64 zp, .int .u32 zl, .int .u8 zn, .int .u8 zd, .int .u32 zf, .int .u64 zx, .string zb] 27) (below_al (o := .cells #[.string ck, .int .u64 cp, .int .u32 cl, .int .u8 cn, .int .u8 cd, .int .u32 cf, .int .u64 cx, .string cb] 27) (below_al (o := .cells #[.string ak, .int .u64 ap, .int .u32 al, .int .u8 an, .int .u8 ad, .int .u32 af, .int .u64 ax, .string ab] 27) (Below.refl w.heap.size w)))))
  simp only [World.size_alloc] at hA2 HC HZ
  refine (HG.out (w.heap.size + 1 + 1 + 1) _ _ hA2).mono ?_
  rintro e w1 ⟨rfl, b1⟩
  clear hA2
  replace HA := Lib.hid (at_below HA.out b1)
  replace HC := Lib.hid (at_below HC.out b1)
  replace HZ := Lib.hid (at_below HZ.out b1)
  replace HB := Lib.hid (below_on HB.out b1)
  clear b1
  go_wp2_with (fail)
  replace HA := Lib.hid (at_drew HA.out)
  replace HC := Lib.hid (at_drew HC.out)
  replace HZ := Lib.hid (at_drew HZ.out)
  replace HB := Lib.hid (Below.drew HB.out)
  refine wp_region_held_drew (S := (fun W => (W.cell? ⟨w.heap.size, 0, none⟩ = some (.string ak) ∧ W.cell? ⟨w.heap.size, 1, none⟩ = some (.int .u64 ap) ∧ W.cell? ⟨w.heap.size, 2, none⟩ = some (.int .u32 al) ∧ W.cell? ⟨w.heap.size, 3, none⟩ = some (.int .u8 an) ∧ W.cell? ⟨w.heap.size, 4, none⟩ = some (.int .u8 ad) ∧ W.cell? ⟨w.heap.size, 5, none⟩ = some (.int .u32 af) ∧ W.cell? ⟨w.heap.size, 6, none⟩ = some (.int .u64 ax) ∧ W.cell? ⟨w.heap.size, 7, none⟩ = some (.string ab)) ∧ (W.cell? ⟨(w.heap.size + 1), 0, none⟩ = some (.string ck) ∧ W.cell? ⟨(w.heap.size + 1), 1, none⟩ = some (.int .u64 cp) ∧ W.cell? ⟨(w.heap.size + 1), 2, none⟩ = some (.int .u32 cl) ∧ W.cell? ⟨(w.heap.size + 1), 3, none⟩ = some (.int .u8 cn) ∧ W.cell? ⟨(w.heap.size + 1), 4, none⟩ = some (.int .u8 cd) ∧ W.cell? ⟨(w.heap.size + 1), 5, none⟩ = some (.int .u32 cf) ∧ W.cell? ⟨(w.heap.size + 1), 6, none⟩ = some (.int .u64 cx) ∧ W.cell? ⟨(w.heap.size + 1), 7, none⟩ = some (.string cb)) ∧ (W.cell? ⟨(w.heap.size + 1 + 1), 0, none⟩ = some (.string zk) ∧ W.cell? ⟨(w.heap.size + 1 + 1), 1, none⟩ = some (.int .u64 zp) ∧ W.cell? ⟨(w.heap.size + 1 + 1), 2, none⟩ = some (.int .u32 zl) ∧ W.cell? ⟨(w.heap.size + 1 + 1), 3, none⟩ = some (.int .u8 zn) ∧ W.cell? ⟨(w.heap.size + 1 + 1), 4, none⟩ = some (.int .u8 zd) ∧ W.cell? ⟨(w.heap.size + 1 + 1), 5, none⟩ = some (.int .u32 zf) ∧ W.cell? ⟨(w.heap.size + 1 + 1), 6, none⟩ = some (.int .u64 zx) ∧ W.cell? ⟨(w.heap.size + 1 + 1), 7, none⟩ = some (.string zb)))) (by kernel_rfl) ?_ (fun hHeld => ?_)
  · (try dsimp only)
    exact ⟨⟨(at8 HA.out).1, (at8 HA.out).2.1, (at8 HA.out).2.2.1, (at8 HA.out).2.2.2.1, (at8 HA.out).2.2.2.2.1, (at8 HA.out).2.2.2.2.2.1, (at8 HA.out).2.2.2.2.2.2.1, (at8 HA.out).2.2.2.2.2.2.2.1⟩, ⟨(at8 HC.out).1, (at8 HC.out).2.1, (at8 HC.out).2.2.1, (at8 HC.out).2.2.2.1, (at8 HC.out).2.2.2.2.1, (at8 HC.out).2.2.2.2.2.1, (at8 HC.out).2.2.2.2.2.2.1, (at8 HC.out).2.2.2.2.2.2.2.1⟩, ⟨(at8 HZ.out).1, (at8 HZ.out).2.1, (at8 HZ.out).2.2.1, (at8 HZ.out).2.2.2.1, (at8 HZ.out).2.2.2.2.1, (at8 HZ.out).2.2.2.2.2.1, (at8 HZ.out).2.2.2.2.2.2.1, (at8 HZ.out).2.2.2.2.2.2.2.1⟩⟩
  refine Draw.take_w (i := 0) (v := ?vv40) rfl (by kernel_rfl) (by kernel_rfl) (by kernel_rfl) (fun _ _ _ h => h) (by rfl) ?hy40 (by assumption) ?rest40
  case hy40 => ((intro w hSw); (try dsimp only at hSw); go_simp; (try with_reducible rfl))
  (try simp only [Act.put, List.setIfInBounds_toArray, List.set_cons_zero, List.set_cons_succ])
  refine Draw.take_w (i := 1) (v := ?vv41) rfl (by kernel_rfl) (by kernel_rfl) (by kernel_rfl) (fun _ _ _ h => h) (by rfl) ?hy41 (by assumption) ?rest41
  case hy41 => ((intro w hSw); (try dsimp only at hSw); go_simp; (try with_reducible rfl))
  (try simp only [Act.put, List.setIfInBounds_toArray, List.set_cons_zero, List.set_cons_succ])
  refine Draw.take_w (i := 3) (v := ?vv42) rfl (by kernel_rfl) (by kernel_rfl) (by kernel_rfl) (fun _ _ _ h => h) (by rfl) ?hy42 (by assumption) ?rest42
  case hy42 => ((intro w hSw); (try dsimp only at hSw); go_simp; (try with_reducible rfl))
  (try simp only [Act.put, List.setIfInBounds_toArray, List.set_cons_zero, List.set_cons_succ])
  refine Draw.take_w (i := 4) (v := ?vv43) rfl (by kernel_rfl) (by kernel_rfl) (by kernel_rfl) (fun _ _ _ h => h) (by rfl) ?hy43 (by assumption) ?rest43
  case hy43 => ((intro w hSw); (try dsimp only at hSw); go_simp; (try with_reducible rfl))
  (try simp only [Act.put, List.setIfInBounds_toArray, List.set_cons_zero, List.set_cons_succ])
  refine Draw.take_w (i := 6) (v := ?vv44) rfl (by kernel_rfl) (by kernel_rfl) (by kernel_rfl) (fun _ _ _ h => h) (by rfl) ?hy44 (by assumption) ?rest44
  case hy44 => ((intro w hSw); (try dsimp only at hSw); go_simp; (try with_reducible rfl))
  (try simp only [Act.put, List.setIfInBounds_toArray, List.set_cons_zero, List.set_cons_succ])
  refine Draw.take_w (i := 7) (v := ?vv45) rfl (by kernel_rfl) (by kernel_rfl) (by kernel_rfl) (fun _ _ _ h => h) (by rfl) ?hy45 (by assumption) ?rest45
  case hy45 => ((intro w hSw); (try dsimp only at hSw); go_simp; (try with_reducible rfl))
  (try simp only [Act.put, List.setIfInBounds_toArray, List.set_cons_zero, List.set_cons_succ])
  refine Draw.call_d (i := 2) rfl (by kernel_rfl) (by rfl) (fun K hK => ?_)
  go_simp
  refine (H1.out _).mono ?_
  rintro e w2 ⟨rfl, b2⟩
  replace HA := Lib.hid (at_below HA.out b2)
  replace HC := Lib.hid (at_below HC.out b2)
  replace HZ := Lib.hid (at_below HZ.out b2)
  replace HB := Lib.hid (below_on HB.out b2)
  clear b2
  refine hK.out _ _ ?_ (fun hHeld => ?_)
  · (try dsimp only)
    exact ⟨⟨(at8 HA.out).1, (at8 HA.out).2.1, (at8 HA.out).2.2.1, (at8 HA.out).2.2.2.1, (at8 HA.out).2.2.2.2.1, (at8 HA.out).2.2.2.2.2.1, (at8 HA.out).2.2.2.2.2.2.1, (at8 HA.out).2.2.2.2.2.2.2.1⟩, ⟨(at8 HC.out).1, (at8 HC.out).2.1, (at8 HC.out).2.2.1, (at8 HC.out).2.2.2.1, (at8 HC.out).2.2.2.2.1, (at8 HC.out).2.2.2.2.2.1, (at8 HC.out).2.2.2.2.2.2.1, (at8 HC.out).2.2.2.2.2.2.2.1⟩, ⟨(at8 HZ.out).1, (at8 HZ.out).2.1, (at8 HZ.out).2.2.1, (at8 HZ.out).2.2.2.1, (at8 HZ.out).2.2.2.2.1, (at8 HZ.out).2.2.2.2.2.1, (at8 HZ.out).2.2.2.2.2.2.1, (at8 HZ.out).2.2.2.2.2.2.2.1⟩⟩
  clear hK K
  (try simp only [Act.put, List.setIfInBounds_toArray, List.set_cons_zero, List.set_cons_succ])
  refine Draw.call_d (i := 5) rfl (by kernel_rfl) (by rfl) (fun K hK => ?_)
  go_simp
  refine (H2.out _).mono ?_
  rintro e w3 ⟨rfl, b2⟩
  replace HA := Lib.hid (at_below HA.out b2)
  replace HC := Lib.hid (at_below HC.out b2)
  replace HZ := Lib.hid (at_below HZ.out b2)
  replace HB := Lib.hid (below_on HB.out b2)
  clear b2
  refine hK.out _ _ ?_ (fun hHeld => ?_)
  · (try dsimp only)
    exact ⟨⟨(at8 HA.out).1, (at8 HA.out).2.1, (at8 HA.out).2.2.1, (at8 HA.out).2.2.2.1, (at8 HA.out).2.2.2.2.1, (at8 HA.out).2.2.2.2.2.1, (at8 HA.out).2.2.2.2.2.2.1, (at8 HA.out).2.2.2.2.2.2.2.1⟩, ⟨(at8 HC.out).1, (at8 HC.out).2.1, (at8 HC.out).2.2.1, (at8 HC.out).2.2.2.1, (at8 HC.out).2.2.2.2.1, (at8 HC.out).2.2.2.2.2.1, (at8 HC.out).2.2.2.2.2.2.1, (at8 HC.out).2.2.2.2.2.2.2.1⟩, ⟨(at8 HZ.out).1, (at8 HZ.out).2.1, (at8 HZ.out).2.2.1, (at8 HZ.out).2.2.2.1, (at8 HZ.out).2.2.2.2.1, (at8 HZ.out).2.2.2.2.2.1, (at8 HZ.out).2.2.2.2.2.2.1, (at8 HZ.out).2.2.2.2.2.2.2.1⟩⟩
  clear hK K
  (try simp only [Act.put, List.setIfInBounds_toArray, List.set_cons_zero, List.set_cons_succ])
  refine Draw.call_d (i := 8) rfl (by kernel_rfl) (by rfl) (fun K hK => ?_)
  go_simp
  refine (H3.out _).mono ?_
  rintro e w4 ⟨rfl, b2⟩
  replace HA := Lib.hid (at_below HA.out b2)
  replace HC := Lib.hid (at_below HC.out b2)
  replace HZ := Lib.hid (at_below HZ.out b2)
  replace HB := Lib.hid (below_on HB.out b2)
  clear b2
  refine hK.out _ _ ?_ (fun hHeld => ?_)
  · (try dsimp only)
    exact ⟨⟨(at8 HA.out).1, (at8 HA.out).2.1, (at8 HA.out).2.2.1, (at8 HA.out).2.2.2.1, (at8 HA.out).2.2.2.2.1, (at8 HA.out).2.2.2.2.2.1, (at8 HA.out).2.2.2.2.2.2.1, (at8 HA.out).2.2.2.2.2.2.2.1⟩, ⟨(at8 HC.out).1, (at8 HC.out).2.1, (at8 HC.out).2.2.1, (at8 HC.out).2.2.2.1, (at8 HC.out).2.2.2.2.1, (at8 HC.out).2.2.2.2.2.1, (at8 HC.out).2.2.2.2.2.2.1, (at8 HC.out).2.2.2.2.2.2.2.1⟩, ⟨(at8 HZ.out).1, (at8 HZ.out).2.1, (at8 HZ.out).2.2.1, (at8 HZ.out).2.2.2.1, (at8 HZ.out).2.2.2.2.1, (at8 HZ.out).2.2.2.2.2.1, (at8 HZ.out).2.2.2.2.2.2.1, (at8 HZ.out).2.2.2.2.2.2.2.1⟩⟩
  clear hK K
  (try simp only [Act.put, List.setIfInBounds_toArray, List.set_cons_zero, List.set_cons_succ])
  refine Draw.take_w (i := 9) (v := ?vv46) rfl (by kernel_rfl) (by kernel_rfl) (by kernel_rfl) (fun _ _ _ h => h) (by rfl) ?hy46 (by assumption) ?rest46
  case hy46 => ((intro w hSw); (try dsimp only at hSw); go_simp; (try with_reducible rfl))
  (try simp only [Act.put, List.setIfInBounds_toArray, List.set_cons_zero, List.set_cons_succ])
  refine Draw.take_w (i := 10) (v := ?vv47) rfl (by kernel_rfl) (by kernel_rfl) (by kernel_rfl) (fun _ _ _ h => h) (by rfl) ?hy47 (by assumption) ?rest47
  case hy47 => ((intro w hSw); (try dsimp only at hSw); go_simp; (try with_reducible rfl))
  (try simp only [Act.put, List.setIfInBounds_toArray, List.set_cons_zero, List.set_cons_succ])
  refine Draw.take_w (i := 11) (v := ?vv48) rfl (by kernel_rfl) (by kernel_rfl) (by kernel_rfl) (fun _ _ _ h => h) (by rfl) ?hy48 (by assumption) ?rest48
  case hy48 => ((intro w hSw); (try dsimp only at hSw); go_simp; (try with_reducible rfl))
  (try simp only [Act.put, List.setIfInBounds_toArray, List.set_cons_zero, List.set_cons_succ])
  refine wpAnyH_done (by kernel_rfl) ?_ _
  obtain ⟨x0, x1, x2, x3, x4, x5, x6, x7, -⟩ := at8 HA.out
  obtain ⟨y0, y1, y2, y3, y4, y5, y6, y7, -⟩ := at8 HC.out
  have q1 := At.lt HA.out
  have q2 := At.lt HC.out
  go_upto_region 6 with (fail)
  have HD := Lib.hid (at_new w4 #[.string ak, .int .u64 cp, .int .u32 cl, .int .u8 cn, .int .u8 cd, .int .u32 cf, .int .u64 cx, .string cb] 27)
  replace HA := Lib.hid (at_alloc (o := .cells #[.string ak, .int .u64 cp, .int .u32 cl, .int .u8 cn, .int .u8 cd, .int .u32 cf, .int .u64 cx, .string cb] 27) HA.out)
  replace HC := Lib.hid (at_alloc (o := .cells #[.string ak, .int .u64 cp, .int .u32 cl, .int .u8 cn, .int .u8 cd, .int .u32 cf, .int .u64 cx, .string cb] 27) HC.out)
  replace HB := Lib.hid (below_al (o := .cells #[.string ak, .int .u64 cp, .int .u32 cl, .int .u8 cn, .int .u8 cd, .int .u32 cf, .int .u64 cx, .string cb] 27) HB.out)
  clear HZ x0 x1 x2 x3 x4 x5 x6 x7 y0 y1 y2 y3 y4 y5 y6 y7 q1 q2
  generalize w4.alloc (.cells #[.string ak, .int .u64 cp, .int .u32 cl, .int .u8 cn, .int .u8 cd, .int .u32 cf, .int .u64 cx, .string cb] 27) = w5 at *
  generalize w4.heap.size = v at *
  go_wp2_with (fail)
  refine (H0.out _).mono ?_
  rintro e w6 ⟨rfl, b2⟩
  replace HA := Lib.hid (at_below HA.out b2)
  replace HC := Lib.hid (at_below HC.out b2)
  replace HD := Lib.hid (at_below HD.out b2)
  replace HB := Lib.hid (below_on HB.out b2)
  clear b2
  obtain ⟨x0, x1, x2, x3, x4, x5, x6, x7, -⟩ := at8 HA.out
  obtain ⟨y0, y1, y2, y3, y4, y5, y6, y7, -⟩ := at8 HC.out
  go_wp2_with (fail)
  clear x0 x1 x2 x3 x4 x5 x6 x7 y0 y1 y2 y3 y4 y5 y6 y7
  refine (H4.out _).mono ?_
  rintro e w7 ⟨rfl, b2⟩
  replace HA := Lib.hid (at_below HA.out b2)
  replace HC := Lib.hid (at_below HC.out b2)
  replace HD := Lib.hid (at_below HD.out b2)
  replace HB := Lib.hid (below_on HB.out b2)
  clear b2
  obtain ⟨x0, x1, x2, x3, x4, x5, x6, x7, -⟩ := at8 HA.out
  obtain ⟨y0, y1, y2, y3, y4, y5, y6, y7, -⟩ := at8 HD.out
  go_wp2_with (fail)
  go_ret
  exact ⟨rfl, HB.out⟩
set_option maxRecDepth 100000 in
set_option maxHeartbeats 1600000 in
theorem order_v (ak : ByteArray) (ap al an ad af ax : Int) (ab : ByteArray) (ck : ByteArray) (cp cl cn cd cf cx : Int) (cb : ByteArray) (zk : ByteArray) (zp zl zn zd zf zx : Int) (zb : ByteArray) (w : World) (hg : (gr ak ab || gr ck cb || gr zk zb) = false)  (hh : cmpR ap al an ad af ax ab cp cl cn cd cf cx cb = 0 ∧ 0 < cmpR cp cl cn cd cf cx cb zp zl zn zd zf zx zb) : Calls Try.prog 3 #[.agg #[.string ak, .int .u64 ap, .int .u32 al, .int .u8 an, .int .u8 ad, .int .u32 af, .int .u64 ax, .string ab], .agg #[.string ck, .int .u64 cp, .int .u32 cl, .int .u8 cn, .int .u8 cd, .int .u32 cf, .int .u64 cx, .string cb], .agg #[.string zk, .int .u64 zp, .int .u32 zl, .int .u8 zn, .int .u8 zd, .int .u32 zf, .int .u64 zx, .string zb]] w fun e w' => e = .returned (.bool true) ∧ Below w.heap.size w w' := by
  have HG := Lib.hid (fun b t w h => great3 ak ap al an ad af ax ab ck cp cl cn cd cf cx cb zk zp zl zn zd zf zx zb b t w h)
  rw [hg] at HG
  have hn : cmpR cp cl cn cd cf cx cb ap al an ad af ax ab = - cmpR ap al an ad af ax ab cp cl cn cd cf cx cb := cmp2_neg ⟨ap, al, an, ad, af, ax, ab⟩ ⟨cp, cl, cn, cd, cf, cx, cb⟩
  have g4 := fun w => rcompare_any ck cp cl cn cd cf cx cb ak ap al an ad af ax ab w
  rw [hn] at g4
  have H0 := Lib.hid fixed_any
  have H1 := Lib.hid (fun w => rcompare_any ak ap al an ad af ax ab ck cp cl cn cd cf cx cb w)
  have H2 := Lib.hid (fun w => rcompare_any ck cp cl cn cd cf cx cb zk zp zl zn zd zf zx zb w)
  have H3 := Lib.hid (fun w => rcompare_any ak ap al an ad af ax ab zk zp zl zn zd zf zx zb w)
  have H4 := Lib.hid g4
  clear g4 hn
  have hx3 : cmpR ap al an ad af ax ab cp cl cn cd cf cx cb = -1 ∨ cmpR ap al an ad af ax ab cp cl cn cd cf cx cb = 0 ∨ cmpR ap al an ad af ax ab cp cl cn cd cf cx cb = 1 := cmp2_three ⟨ap, al, an, ad, af, ax, ab⟩ ⟨cp, cl, cn, cd, cf, cx, cb⟩
  have hq := fun w => eqRec_cmp w ak ap al an ad af ax ab cp cl cn cd cf cx cb
  generalize cmpR ap al an ad af ax ab cp cl cn cd cf cx cb = x at *
  generalize cmpR cp cl cn cd cf cx cb zp zl zn zd zf zx zb = y at *
  generalize cmpR ap al an ad af ax ab zp zl zn zd zf zx zb = z at *
  have hwr : IntKind.i64.wrap (-x) = -x := by rcases hx3 with h | h | h <;> rw [h] <;> decide
  clear hx3
  rw [show (x == 0) = true from beq_iff_eq.2 (by omega)] at hq
  have hq2 := fun w => run_eql_struct (P := Try.prog) (w := w) 27 #[.string ak, .int .u64 ap, .int .u32 al, .int .u8 an, .int .u8 ad, .int .u32 af, .int .u64 ax, .string ab] #[.string ak, .int .u64 cp, .int .u32 cl, .int .u8 cn, .int .u8 cd, .int .u32 cf, .int .u64 cx, .string cb]
  simp only [hq, Result.andThen] at hq2
  have k0 : (x == 0) = true := beq_iff_eq.2 (by omega)
  have c0 : decide (0 < x) = false := decide_eq_false (by omega)
  have c1 : decide (0 < y) = true := decide_eq_true (by omega)
  clear hh
  go_enter Try.func3, Try.ntmps3
  go_wp2_with (fail)
  have hA2 := at_new (((w.alloc (.cells #[.string ak, .int .u64 ap, .int .u32 al, .int .u8 an, .int .u8 ad, .int .u32 af, .int .u64 ax, .string ab] 27)).alloc (.cells #[.string ck, .int .u64 cp, .int .u32 cl, .int .u8 cn, .int .u8 cd, .int .u32 cf, .int .u64 cx, .string cb] 27)).alloc (.cells #[.string zk, .int .u64 zp, .int .u32 zl, .int .u8 zn, .int .u8 zd, .int .u32 zf, .int .u64 zx, .string zb] 27)) #[.string ak, .int .u64 ap, .int .u32 al, .int .u8 an, .int .u8 ad, .int .u32 af, .int .u64 ax, .string ab, .string ck, .int .u64 cp, .int .u32 cl, .int .u8 cn, .int .u8 cd, .int .u32 cf, .int .u64 cx, .string cb, .string zk, .int .u64 zp, .int .u32 zl, .int .u8 zn, .int .u8 zd, .int .u32 zf, .int .u64 zx, .string zb] 27
  have HA := Lib.hid (at_alloc (o := .cells #[.string ak, .int .u64 ap, .int .u32 al, .int .u8 an, .int .u8 ad, .int .u32 af, .int .u64 ax, .string ab, .string ck, .int .u64 cp, .int .u32 cl, .int .u8 cn, .int .u8 cd, .int .u32 cf, .int .u64 cx, .string cb, .string zk, .int .u64 zp, .int .u32 zl, .int .u8 zn, .int .u8 zd, .int .u32 zf, .int .u64 zx, .string zb] 27) (at_alloc (o := .cells #[.string zk, .int .u64 zp, .int .u32 zl, .int .u8 zn, .int .u8 zd, .int .u32 zf, .int .u64 zx, .string zb] 27) (at_alloc (o := .cells #[.string ck, .int .u64 cp, .int .u32 cl, .int .u8 cn, .int .u8 cd, .int .u32 cf, .int .u64 cx, .string cb] 27) (at_new w #[.string ak, .int .u64 ap, .int .u32 al, .int .u8 an, .int .u8 ad, .int .u32 af, .int .u64 ax, .string ab] 27))))
  have HC := Lib.hid (at_alloc (o := .cells #[.string ak, .int .u64 ap, .int .u32 al, .int .u8 an, .int .u8 ad, .int .u32 af, .int .u64 ax, .string ab, .string ck, .int .u64 cp, .int .u32 cl, .int .u8 cn, .int .u8 cd, .int .u32 cf, .int .u64 cx, .string cb, .string zk, .int .u64 zp, .int .u32 zl, .int .u8 zn, .int .u8 zd, .int .u32 zf, .int .u64 zx, .string zb] 27) (at_alloc (o := .cells #[.string zk, .int .u64 zp, .int .u32 zl, .int .u8 zn, .int .u8 zd, .int .u32 zf, .int .u64 zx, .string zb] 27) (at_new (w.alloc (.cells #[.string ak, .int .u64 ap, .int .u32 al, .int .u8 an, .int .u8 ad, .int .u32 af, .int .u64 ax, .string ab] 27)) #[.string ck, .int .u64 cp, .int .u32 cl, .int .u8 cn, .int .u8 cd, .int .u32 cf, .int .u64 cx, .string cb] 27)))
  have HZ := Lib.hid (at_alloc (o := .cells #[.string ak, .int .u64 ap, .int .u32 al, .int .u8 an, .int .u8 ad, .int .u32 af, .int .u64 ax, .string ab, .string ck, .int .u64 cp, .int .u32 cl, .int .u8 cn, .int .u8 cd, .int .u32 cf, .int .u64 cx, .string cb, .string zk, .int .u64 zp, .int .u32 zl, .int .u8 zn, .int .u8 zd, .int .u32 zf, .int .u64 zx, .string zb] 27) (at_new ((w.alloc (.cells #[.string ak, .int .u64 ap, .int .u32 al, .int .u8 an, .int .u8 ad, .int .u32 af, .int .u64 ax, .string ab] 27)).alloc (.cells #[.string ck, .int .u64 cp, .int .u32 cl, .int .u8 cn, .int .u8 cd, .int .u32 cf, .int .u64 cx, .string cb] 27)) #[.string zk, .int .u64 zp, .int .u32 zl, .int .u8 zn, .int .u8 zd, .int .u32 zf, .int .u64 zx, .string zb] 27))
  have HB := Lib.hid (below_al (o := .cells #[.string ak, .int .u64 ap, .int .u32 al, .int .u8 an, .int .u8 ad, .int .u32 af, .int .u64 ax, .string ab, .string ck, .int .u64 cp, .int .u32 cl, .int .u8 cn, .int .u8 cd, .int .u32 cf, .int .u64 cx, .string cb, .string zk, .int .u64 zp, .int .u32 zl, .int .u8 zn, .int .u8 zd, .int .u32 zf, .int .u64 zx, .string zb] 27) (below_al (o := .cells #[.string zk, .int .u64 zp, .int .u32 zl, .int .u8 zn, .int .u8 zd, .int .u32 zf, .int .u64 zx, .string zb] 27) (below_al (o := .cells #[.string ck, .int .u64 cp, .int .u32 cl, .int .u8 cn, .int .u8 cd, .int .u32 cf, .int .u64 cx, .string cb] 27) (below_al (o := .cells #[.string ak, .int .u64 ap, .int .u32 al, .int .u8 an, .int .u8 ad, .int .u32 af, .int .u64 ax, .string ab] 27) (Below.refl w.heap.size w)))))
  simp only [World.size_alloc] at hA2 HC HZ
  refine (HG.out (w.heap.size + 1 + 1 + 1) _ _ hA2).mono ?_
  rintro e w1 ⟨rfl, b1⟩
  clear hA2
  replace HA := Lib.hid (at_below HA.out b1)
  replace HC := Lib.hid (at_below HC.out b1)
  replace HZ := Lib.hid (at_below HZ.out b1)
  replace HB := Lib.hid (below_on HB.out b1)
  clear b1
  go_wp2_with (fail)
  replace HA := Lib.hid (at_drew HA.out)
  replace HC := Lib.hid (at_drew HC.out)
  replace HZ := Lib.hid (at_drew HZ.out)
  replace HB := Lib.hid (Below.drew HB.out)
  refine wp_region_held_drew (S := (fun W => (W.cell? ⟨w.heap.size, 0, none⟩ = some (.string ak) ∧ W.cell? ⟨w.heap.size, 1, none⟩ = some (.int .u64 ap) ∧ W.cell? ⟨w.heap.size, 2, none⟩ = some (.int .u32 al) ∧ W.cell? ⟨w.heap.size, 3, none⟩ = some (.int .u8 an) ∧ W.cell? ⟨w.heap.size, 4, none⟩ = some (.int .u8 ad) ∧ W.cell? ⟨w.heap.size, 5, none⟩ = some (.int .u32 af) ∧ W.cell? ⟨w.heap.size, 6, none⟩ = some (.int .u64 ax) ∧ W.cell? ⟨w.heap.size, 7, none⟩ = some (.string ab)) ∧ (W.cell? ⟨(w.heap.size + 1), 0, none⟩ = some (.string ck) ∧ W.cell? ⟨(w.heap.size + 1), 1, none⟩ = some (.int .u64 cp) ∧ W.cell? ⟨(w.heap.size + 1), 2, none⟩ = some (.int .u32 cl) ∧ W.cell? ⟨(w.heap.size + 1), 3, none⟩ = some (.int .u8 cn) ∧ W.cell? ⟨(w.heap.size + 1), 4, none⟩ = some (.int .u8 cd) ∧ W.cell? ⟨(w.heap.size + 1), 5, none⟩ = some (.int .u32 cf) ∧ W.cell? ⟨(w.heap.size + 1), 6, none⟩ = some (.int .u64 cx) ∧ W.cell? ⟨(w.heap.size + 1), 7, none⟩ = some (.string cb)) ∧ (W.cell? ⟨(w.heap.size + 1 + 1), 0, none⟩ = some (.string zk) ∧ W.cell? ⟨(w.heap.size + 1 + 1), 1, none⟩ = some (.int .u64 zp) ∧ W.cell? ⟨(w.heap.size + 1 + 1), 2, none⟩ = some (.int .u32 zl) ∧ W.cell? ⟨(w.heap.size + 1 + 1), 3, none⟩ = some (.int .u8 zn) ∧ W.cell? ⟨(w.heap.size + 1 + 1), 4, none⟩ = some (.int .u8 zd) ∧ W.cell? ⟨(w.heap.size + 1 + 1), 5, none⟩ = some (.int .u32 zf) ∧ W.cell? ⟨(w.heap.size + 1 + 1), 6, none⟩ = some (.int .u64 zx) ∧ W.cell? ⟨(w.heap.size + 1 + 1), 7, none⟩ = some (.string zb)))) (by kernel_rfl) ?_ (fun hHeld => ?_)
  · (try dsimp only)
    exact ⟨⟨(at8 HA.out).1, (at8 HA.out).2.1, (at8 HA.out).2.2.1, (at8 HA.out).2.2.2.1, (at8 HA.out).2.2.2.2.1, (at8 HA.out).2.2.2.2.2.1, (at8 HA.out).2.2.2.2.2.2.1, (at8 HA.out).2.2.2.2.2.2.2.1⟩, ⟨(at8 HC.out).1, (at8 HC.out).2.1, (at8 HC.out).2.2.1, (at8 HC.out).2.2.2.1, (at8 HC.out).2.2.2.2.1, (at8 HC.out).2.2.2.2.2.1, (at8 HC.out).2.2.2.2.2.2.1, (at8 HC.out).2.2.2.2.2.2.2.1⟩, ⟨(at8 HZ.out).1, (at8 HZ.out).2.1, (at8 HZ.out).2.2.1, (at8 HZ.out).2.2.2.1, (at8 HZ.out).2.2.2.2.1, (at8 HZ.out).2.2.2.2.2.1, (at8 HZ.out).2.2.2.2.2.2.1, (at8 HZ.out).2.2.2.2.2.2.2.1⟩⟩
  refine Draw.take_w (i := 0) (v := ?vv49) rfl (by kernel_rfl) (by kernel_rfl) (by kernel_rfl) (fun _ _ _ h => h) (by rfl) ?hy49 (by assumption) ?rest49
  case hy49 => ((intro w hSw); (try dsimp only at hSw); go_simp; (try with_reducible rfl))
  (try simp only [Act.put, List.setIfInBounds_toArray, List.set_cons_zero, List.set_cons_succ])
  refine Draw.take_w (i := 1) (v := ?vv50) rfl (by kernel_rfl) (by kernel_rfl) (by kernel_rfl) (fun _ _ _ h => h) (by rfl) ?hy50 (by assumption) ?rest50
  case hy50 => ((intro w hSw); (try dsimp only at hSw); go_simp; (try with_reducible rfl))
  (try simp only [Act.put, List.setIfInBounds_toArray, List.set_cons_zero, List.set_cons_succ])
  refine Draw.take_w (i := 3) (v := ?vv51) rfl (by kernel_rfl) (by kernel_rfl) (by kernel_rfl) (fun _ _ _ h => h) (by rfl) ?hy51 (by assumption) ?rest51
  case hy51 => ((intro w hSw); (try dsimp only at hSw); go_simp; (try with_reducible rfl))
  (try simp only [Act.put, List.setIfInBounds_toArray, List.set_cons_zero, List.set_cons_succ])
  refine Draw.take_w (i := 4) (v := ?vv52) rfl (by kernel_rfl) (by kernel_rfl) (by kernel_rfl) (fun _ _ _ h => h) (by rfl) ?hy52 (by assumption) ?rest52
  case hy52 => ((intro w hSw); (try dsimp only at hSw); go_simp; (try with_reducible rfl))
  (try simp only [Act.put, List.setIfInBounds_toArray, List.set_cons_zero, List.set_cons_succ])
  refine Draw.take_w (i := 6) (v := ?vv53) rfl (by kernel_rfl) (by kernel_rfl) (by kernel_rfl) (fun _ _ _ h => h) (by rfl) ?hy53 (by assumption) ?rest53
  case hy53 => ((intro w hSw); (try dsimp only at hSw); go_simp; (try with_reducible rfl))
  (try simp only [Act.put, List.setIfInBounds_toArray, List.set_cons_zero, List.set_cons_succ])
  refine Draw.take_w (i := 7) (v := ?vv54) rfl (by kernel_rfl) (by kernel_rfl) (by kernel_rfl) (fun _ _ _ h => h) (by rfl) ?hy54 (by assumption) ?rest54
  case hy54 => ((intro w hSw); (try dsimp only at hSw); go_simp; (try with_reducible rfl))
  (try simp only [Act.put, List.setIfInBounds_toArray, List.set_cons_zero, List.set_cons_succ])
  refine Draw.call_d (i := 2) rfl (by kernel_rfl) (by rfl) (fun K hK => ?_)
  go_simp
  refine (H1.out _).mono ?_
  rintro e w2 ⟨rfl, b2⟩
  replace HA := Lib.hid (at_below HA.out b2)
  replace HC := Lib.hid (at_below HC.out b2)
  replace HZ := Lib.hid (at_below HZ.out b2)
  replace HB := Lib.hid (below_on HB.out b2)
  clear b2
  refine hK.out _ _ ?_ (fun hHeld => ?_)
  · (try dsimp only)
    exact ⟨⟨(at8 HA.out).1, (at8 HA.out).2.1, (at8 HA.out).2.2.1, (at8 HA.out).2.2.2.1, (at8 HA.out).2.2.2.2.1, (at8 HA.out).2.2.2.2.2.1, (at8 HA.out).2.2.2.2.2.2.1, (at8 HA.out).2.2.2.2.2.2.2.1⟩, ⟨(at8 HC.out).1, (at8 HC.out).2.1, (at8 HC.out).2.2.1, (at8 HC.out).2.2.2.1, (at8 HC.out).2.2.2.2.1, (at8 HC.out).2.2.2.2.2.1, (at8 HC.out).2.2.2.2.2.2.1, (at8 HC.out).2.2.2.2.2.2.2.1⟩, ⟨(at8 HZ.out).1, (at8 HZ.out).2.1, (at8 HZ.out).2.2.1, (at8 HZ.out).2.2.2.1, (at8 HZ.out).2.2.2.2.1, (at8 HZ.out).2.2.2.2.2.1, (at8 HZ.out).2.2.2.2.2.2.1, (at8 HZ.out).2.2.2.2.2.2.2.1⟩⟩
  clear hK K
  (try simp only [Act.put, List.setIfInBounds_toArray, List.set_cons_zero, List.set_cons_succ])
  refine Draw.call_d (i := 5) rfl (by kernel_rfl) (by rfl) (fun K hK => ?_)
  go_simp
  refine (H2.out _).mono ?_
  rintro e w3 ⟨rfl, b2⟩
  replace HA := Lib.hid (at_below HA.out b2)
  replace HC := Lib.hid (at_below HC.out b2)
  replace HZ := Lib.hid (at_below HZ.out b2)
  replace HB := Lib.hid (below_on HB.out b2)
  clear b2
  refine hK.out _ _ ?_ (fun hHeld => ?_)
  · (try dsimp only)
    exact ⟨⟨(at8 HA.out).1, (at8 HA.out).2.1, (at8 HA.out).2.2.1, (at8 HA.out).2.2.2.1, (at8 HA.out).2.2.2.2.1, (at8 HA.out).2.2.2.2.2.1, (at8 HA.out).2.2.2.2.2.2.1, (at8 HA.out).2.2.2.2.2.2.2.1⟩, ⟨(at8 HC.out).1, (at8 HC.out).2.1, (at8 HC.out).2.2.1, (at8 HC.out).2.2.2.1, (at8 HC.out).2.2.2.2.1, (at8 HC.out).2.2.2.2.2.1, (at8 HC.out).2.2.2.2.2.2.1, (at8 HC.out).2.2.2.2.2.2.2.1⟩, ⟨(at8 HZ.out).1, (at8 HZ.out).2.1, (at8 HZ.out).2.2.1, (at8 HZ.out).2.2.2.1, (at8 HZ.out).2.2.2.2.1, (at8 HZ.out).2.2.2.2.2.1, (at8 HZ.out).2.2.2.2.2.2.1, (at8 HZ.out).2.2.2.2.2.2.2.1⟩⟩
  clear hK K
  (try simp only [Act.put, List.setIfInBounds_toArray, List.set_cons_zero, List.set_cons_succ])
  refine Draw.call_d (i := 8) rfl (by kernel_rfl) (by rfl) (fun K hK => ?_)
  go_simp
  refine (H3.out _).mono ?_
  rintro e w4 ⟨rfl, b2⟩
  replace HA := Lib.hid (at_below HA.out b2)
  replace HC := Lib.hid (at_below HC.out b2)
  replace HZ := Lib.hid (at_below HZ.out b2)
  replace HB := Lib.hid (below_on HB.out b2)
  clear b2
  refine hK.out _ _ ?_ (fun hHeld => ?_)
  · (try dsimp only)
    exact ⟨⟨(at8 HA.out).1, (at8 HA.out).2.1, (at8 HA.out).2.2.1, (at8 HA.out).2.2.2.1, (at8 HA.out).2.2.2.2.1, (at8 HA.out).2.2.2.2.2.1, (at8 HA.out).2.2.2.2.2.2.1, (at8 HA.out).2.2.2.2.2.2.2.1⟩, ⟨(at8 HC.out).1, (at8 HC.out).2.1, (at8 HC.out).2.2.1, (at8 HC.out).2.2.2.1, (at8 HC.out).2.2.2.2.1, (at8 HC.out).2.2.2.2.2.1, (at8 HC.out).2.2.2.2.2.2.1, (at8 HC.out).2.2.2.2.2.2.2.1⟩, ⟨(at8 HZ.out).1, (at8 HZ.out).2.1, (at8 HZ.out).2.2.1, (at8 HZ.out).2.2.2.1, (at8 HZ.out).2.2.2.2.1, (at8 HZ.out).2.2.2.2.2.1, (at8 HZ.out).2.2.2.2.2.2.1, (at8 HZ.out).2.2.2.2.2.2.2.1⟩⟩
  clear hK K
  (try simp only [Act.put, List.setIfInBounds_toArray, List.set_cons_zero, List.set_cons_succ])
  refine Draw.take_w (i := 9) (v := ?vv55) rfl (by kernel_rfl) (by kernel_rfl) (by kernel_rfl) (fun _ _ _ h => h) (by rfl) ?hy55 (by assumption) ?rest55
  case hy55 => ((intro w hSw); (try dsimp only at hSw); go_simp; (try with_reducible rfl))
  (try simp only [Act.put, List.setIfInBounds_toArray, List.set_cons_zero, List.set_cons_succ])
  refine Draw.take_w (i := 10) (v := ?vv56) rfl (by kernel_rfl) (by kernel_rfl) (by kernel_rfl) (fun _ _ _ h => h) (by rfl) ?hy56 (by assumption) ?rest56
  case hy56 => ((intro w hSw); (try dsimp only at hSw); go_simp; (try with_reducible rfl))
  (try simp only [Act.put, List.setIfInBounds_toArray, List.set_cons_zero, List.set_cons_succ])
  refine Draw.take_w (i := 11) (v := ?vv57) rfl (by kernel_rfl) (by kernel_rfl) (by kernel_rfl) (fun _ _ _ h => h) (by rfl) ?hy57 (by assumption) ?rest57
  case hy57 => ((intro w hSw); (try dsimp only at hSw); go_simp; (try with_reducible rfl))
  (try simp only [Act.put, List.setIfInBounds_toArray, List.set_cons_zero, List.set_cons_succ])
  refine wpAnyH_done (by kernel_rfl) ?_ _
  obtain ⟨x0, x1, x2, x3, x4, x5, x6, x7, -⟩ := at8 HA.out
  obtain ⟨y0, y1, y2, y3, y4, y5, y6, y7, -⟩ := at8 HC.out
  have q1 := At.lt HA.out
  have q2 := At.lt HC.out
  go_upto_region 6 with (fail)
  have HD := Lib.hid (at_new w4 #[.string ak, .int .u64 cp, .int .u32 cl, .int .u8 cn, .int .u8 cd, .int .u32 cf, .int .u64 cx, .string cb] 27)
  replace HA := Lib.hid (at_alloc (o := .cells #[.string ak, .int .u64 cp, .int .u32 cl, .int .u8 cn, .int .u8 cd, .int .u32 cf, .int .u64 cx, .string cb] 27) HA.out)
  replace HC := Lib.hid (at_alloc (o := .cells #[.string ak, .int .u64 cp, .int .u32 cl, .int .u8 cn, .int .u8 cd, .int .u32 cf, .int .u64 cx, .string cb] 27) HC.out)
  replace HB := Lib.hid (below_al (o := .cells #[.string ak, .int .u64 cp, .int .u32 cl, .int .u8 cn, .int .u8 cd, .int .u32 cf, .int .u64 cx, .string cb] 27) HB.out)
  clear HZ x0 x1 x2 x3 x4 x5 x6 x7 y0 y1 y2 y3 y4 y5 y6 y7 q1 q2
  generalize w4.alloc (.cells #[.string ak, .int .u64 cp, .int .u32 cl, .int .u8 cn, .int .u8 cd, .int .u32 cf, .int .u64 cx, .string cb] 27) = w5 at *
  generalize w4.heap.size = v at *
  go_wp2_with (fail)
  refine (H0.out _).mono ?_
  rintro e w6 ⟨rfl, b2⟩
  replace HA := Lib.hid (at_below HA.out b2)
  replace HC := Lib.hid (at_below HC.out b2)
  replace HD := Lib.hid (at_below HD.out b2)
  replace HB := Lib.hid (below_on HB.out b2)
  clear b2
  obtain ⟨x0, x1, x2, x3, x4, x5, x6, x7, -⟩ := at8 HA.out
  obtain ⟨y0, y1, y2, y3, y4, y5, y6, y7, -⟩ := at8 HC.out
  go_wp2_with (fail)
  clear x0 x1 x2 x3 x4 x5 x6 x7 y0 y1 y2 y3 y4 y5 y6 y7
  refine (H4.out _).mono ?_
  rintro e w7 ⟨rfl, b2⟩
  replace HA := Lib.hid (at_below HA.out b2)
  replace HC := Lib.hid (at_below HC.out b2)
  replace HD := Lib.hid (at_below HD.out b2)
  replace HB := Lib.hid (below_on HB.out b2)
  clear b2
  obtain ⟨x0, x1, x2, x3, x4, x5, x6, x7, -⟩ := at8 HA.out
  obtain ⟨y0, y1, y2, y3, y4, y5, y6, y7, -⟩ := at8 HD.out
  go_wp2_with (fail)
  go_ret
  exact ⟨rfl, HB.out⟩
set_option maxRecDepth 100000 in
set_option maxHeartbeats 1600000 in
theorem order_w (ak : ByteArray) (ap al an ad af ax : Int) (ab : ByteArray) (ck : ByteArray) (cp cl cn cd cf cx : Int) (cb : ByteArray) (zk : ByteArray) (zp zl zn zd zf zx : Int) (zb : ByteArray) (w : World) (hg : (gr ak ab || gr ck cb || gr zk zb) = false)  (hh : cmpR ap al an ad af ax ab cp cl cn cd cf cx cb < 0 ∧ ¬ 0 < cmpR cp cl cn cd cf cx cb zp zl zn zd zf zx zb ∧ cmpR ap al an ad af ax ab zp zl zn zd zf zx zb < 0) : Calls Try.prog 3 #[.agg #[.string ak, .int .u64 ap, .int .u32 al, .int .u8 an, .int .u8 ad, .int .u32 af, .int .u64 ax, .string ab], .agg #[.string ck, .int .u64 cp, .int .u32 cl, .int .u8 cn, .int .u8 cd, .int .u32 cf, .int .u64 cx, .string cb], .agg #[.string zk, .int .u64 zp, .int .u32 zl, .int .u8 zn, .int .u8 zd, .int .u32 zf, .int .u64 zx, .string zb]] w fun e w' => e = .returned (.bool true) ∧ Below w.heap.size w w' := by
  have HG := Lib.hid (fun b t w h => great3 ak ap al an ad af ax ab ck cp cl cn cd cf cx cb zk zp zl zn zd zf zx zb b t w h)
  rw [hg] at HG
  have hn : cmpR cp cl cn cd cf cx cb ap al an ad af ax ab = - cmpR ap al an ad af ax ab cp cl cn cd cf cx cb := cmp2_neg ⟨ap, al, an, ad, af, ax, ab⟩ ⟨cp, cl, cn, cd, cf, cx, cb⟩
  have g4 := fun w => rcompare_any ck cp cl cn cd cf cx cb ak ap al an ad af ax ab w
  rw [hn] at g4
  have H0 := Lib.hid fixed_any
  have H1 := Lib.hid (fun w => rcompare_any ak ap al an ad af ax ab ck cp cl cn cd cf cx cb w)
  have H2 := Lib.hid (fun w => rcompare_any ck cp cl cn cd cf cx cb zk zp zl zn zd zf zx zb w)
  have H3 := Lib.hid (fun w => rcompare_any ak ap al an ad af ax ab zk zp zl zn zd zf zx zb w)
  have H4 := Lib.hid g4
  clear g4 hn
  have hx3 : cmpR ap al an ad af ax ab cp cl cn cd cf cx cb = -1 ∨ cmpR ap al an ad af ax ab cp cl cn cd cf cx cb = 0 ∨ cmpR ap al an ad af ax ab cp cl cn cd cf cx cb = 1 := cmp2_three ⟨ap, al, an, ad, af, ax, ab⟩ ⟨cp, cl, cn, cd, cf, cx, cb⟩
  have hq := fun w => eqRec_cmp w ak ap al an ad af ax ab cp cl cn cd cf cx cb
  generalize cmpR ap al an ad af ax ab cp cl cn cd cf cx cb = x at *
  generalize cmpR cp cl cn cd cf cx cb zp zl zn zd zf zx zb = y at *
  generalize cmpR ap al an ad af ax ab zp zl zn zd zf zx zb = z at *
  have hwr : IntKind.i64.wrap (-x) = -x := by rcases hx3 with h | h | h <;> rw [h] <;> decide
  clear hx3
  rw [show (x == 0) = false from beq_eq_false_iff_ne.2 (by omega)] at hq
  have hq2 := fun w => run_eql_struct (P := Try.prog) (w := w) 27 #[.string ak, .int .u64 ap, .int .u32 al, .int .u8 an, .int .u8 ad, .int .u32 af, .int .u64 ax, .string ab] #[.string ak, .int .u64 cp, .int .u32 cl, .int .u8 cn, .int .u8 cd, .int .u32 cf, .int .u64 cx, .string cb]
  simp only [hq, Result.andThen] at hq2
  have k0 : (x == 0) = false := beq_eq_false_iff_ne.2 (by omega)
  have c0 : decide (0 < x) = false := decide_eq_false (by omega)
  have c1 : decide (0 < y) = false := decide_eq_false (by omega)
  have c2 : decide (z ≤ 0) = true := decide_eq_true (by omega)
  have c3 : decide (z < 0) = true := decide_eq_true (by omega)
  have c4 : decide (x < 0) = true := decide_eq_true (by omega)
  clear hh
  go_enter Try.func3, Try.ntmps3
  go_wp2_with (fail)
  have hA2 := at_new (((w.alloc (.cells #[.string ak, .int .u64 ap, .int .u32 al, .int .u8 an, .int .u8 ad, .int .u32 af, .int .u64 ax, .string ab] 27)).alloc (.cells #[.string ck, .int .u64 cp, .int .u32 cl, .int .u8 cn, .int .u8 cd, .int .u32 cf, .int .u64 cx, .string cb] 27)).alloc (.cells #[.string zk, .int .u64 zp, .int .u32 zl, .int .u8 zn, .int .u8 zd, .int .u32 zf, .int .u64 zx, .string zb] 27)) #[.string ak, .int .u64 ap, .int .u32 al, .int .u8 an, .int .u8 ad, .int .u32 af, .int .u64 ax, .string ab, .string ck, .int .u64 cp, .int .u32 cl, .int .u8 cn, .int .u8 cd, .int .u32 cf, .int .u64 cx, .string cb, .string zk, .int .u64 zp, .int .u32 zl, .int .u8 zn, .int .u8 zd, .int .u32 zf, .int .u64 zx, .string zb] 27
  have HA := Lib.hid (at_alloc (o := .cells #[.string ak, .int .u64 ap, .int .u32 al, .int .u8 an, .int .u8 ad, .int .u32 af, .int .u64 ax, .string ab, .string ck, .int .u64 cp, .int .u32 cl, .int .u8 cn, .int .u8 cd, .int .u32 cf, .int .u64 cx, .string cb, .string zk, .int .u64 zp, .int .u32 zl, .int .u8 zn, .int .u8 zd, .int .u32 zf, .int .u64 zx, .string zb] 27) (at_alloc (o := .cells #[.string zk, .int .u64 zp, .int .u32 zl, .int .u8 zn, .int .u8 zd, .int .u32 zf, .int .u64 zx, .string zb] 27) (at_alloc (o := .cells #[.string ck, .int .u64 cp, .int .u32 cl, .int .u8 cn, .int .u8 cd, .int .u32 cf, .int .u64 cx, .string cb] 27) (at_new w #[.string ak, .int .u64 ap, .int .u32 al, .int .u8 an, .int .u8 ad, .int .u32 af, .int .u64 ax, .string ab] 27))))
  have HC := Lib.hid (at_alloc (o := .cells #[.string ak, .int .u64 ap, .int .u32 al, .int .u8 an, .int .u8 ad, .int .u32 af, .int .u64 ax, .string ab, .string ck, .int .u64 cp, .int .u32 cl, .int .u8 cn, .int .u8 cd, .int .u32 cf, .int .u64 cx, .string cb, .string zk, .int .u64 zp, .int .u32 zl, .int .u8 zn, .int .u8 zd, .int .u32 zf, .int .u64 zx, .string zb] 27) (at_alloc (o := .cells #[.string zk, .int .u64 zp, .int .u32 zl, .int .u8 zn, .int .u8 zd, .int .u32 zf, .int .u64 zx, .string zb] 27) (at_new (w.alloc (.cells #[.string ak, .int .u64 ap, .int .u32 al, .int .u8 an, .int .u8 ad, .int .u32 af, .int .u64 ax, .string ab] 27)) #[.string ck, .int .u64 cp, .int .u32 cl, .int .u8 cn, .int .u8 cd, .int .u32 cf, .int .u64 cx, .string cb] 27)))
  have HZ := Lib.hid (at_alloc (o := .cells #[.string ak, .int .u64 ap, .int .u32 al, .int .u8 an, .int .u8 ad, .int .u32 af, .int .u64 ax, .string ab, .string ck, .int .u64 cp, .int .u32 cl, .int .u8 cn, .int .u8 cd, .int .u32 cf, .int .u64 cx, .string cb, .string zk, .int .u64 zp, .int .u32 zl, .int .u8 zn, .int .u8 zd, .int .u32 zf, .int .u64 zx, .string zb] 27) (at_new ((w.alloc (.cells #[.string ak, .int .u64 ap, .int .u32 al, .int .u8 an, .int .u8 ad, .int .u32 af, .int .u64 ax, .string ab] 27)).alloc (.cells #[.string ck, .int .u64 cp, .int .u32 cl, .int .u8 cn, .int .u8 cd, .int .u32 cf, .int .u64 cx, .string cb] 27)) #[.string zk, .int .u64 zp, .int .u32 zl, .int .u8 zn, .int .u8 zd, .int .u32 zf, .int .u64 zx, .string zb] 27))
  have HB := Lib.hid (below_al (o := .cells #[.string ak, .int .u64 ap, .int .u32 al, .int .u8 an, .int .u8 ad, .int .u32 af, .int .u64 ax, .string ab, .string ck, .int .u64 cp, .int .u32 cl, .int .u8 cn, .int .u8 cd, .int .u32 cf, .int .u64 cx, .string cb, .string zk, .int .u64 zp, .int .u32 zl, .int .u8 zn, .int .u8 zd, .int .u32 zf, .int .u64 zx, .string zb] 27) (below_al (o := .cells #[.string zk, .int .u64 zp, .int .u32 zl, .int .u8 zn, .int .u8 zd, .int .u32 zf, .int .u64 zx, .string zb] 27) (below_al (o := .cells #[.string ck, .int .u64 cp, .int .u32 cl, .int .u8 cn, .int .u8 cd, .int .u32 cf, .int .u64 cx, .string cb] 27) (below_al (o := .cells #[.string ak, .int .u64 ap, .int .u32 al, .int .u8 an, .int .u8 ad, .int .u32 af, .int .u64 ax, .string ab] 27) (Below.refl w.heap.size w)))))
  simp only [World.size_alloc] at hA2 HC HZ
  refine (HG.out (w.heap.size + 1 + 1 + 1) _ _ hA2).mono ?_
  rintro e w1 ⟨rfl, b1⟩
  clear hA2
  replace HA := Lib.hid (at_below HA.out b1)
  replace HC := Lib.hid (at_below HC.out b1)
  replace HZ := Lib.hid (at_below HZ.out b1)
  replace HB := Lib.hid (below_on HB.out b1)
  clear b1
  go_wp2_with (fail)
  replace HA := Lib.hid (at_drew HA.out)
  replace HC := Lib.hid (at_drew HC.out)
  replace HZ := Lib.hid (at_drew HZ.out)
  replace HB := Lib.hid (Below.drew HB.out)
  refine wp_region_held_drew (S := (fun W => (W.cell? ⟨w.heap.size, 0, none⟩ = some (.string ak) ∧ W.cell? ⟨w.heap.size, 1, none⟩ = some (.int .u64 ap) ∧ W.cell? ⟨w.heap.size, 2, none⟩ = some (.int .u32 al) ∧ W.cell? ⟨w.heap.size, 3, none⟩ = some (.int .u8 an) ∧ W.cell? ⟨w.heap.size, 4, none⟩ = some (.int .u8 ad) ∧ W.cell? ⟨w.heap.size, 5, none⟩ = some (.int .u32 af) ∧ W.cell? ⟨w.heap.size, 6, none⟩ = some (.int .u64 ax) ∧ W.cell? ⟨w.heap.size, 7, none⟩ = some (.string ab)) ∧ (W.cell? ⟨(w.heap.size + 1), 0, none⟩ = some (.string ck) ∧ W.cell? ⟨(w.heap.size + 1), 1, none⟩ = some (.int .u64 cp) ∧ W.cell? ⟨(w.heap.size + 1), 2, none⟩ = some (.int .u32 cl) ∧ W.cell? ⟨(w.heap.size + 1), 3, none⟩ = some (.int .u8 cn) ∧ W.cell? ⟨(w.heap.size + 1), 4, none⟩ = some (.int .u8 cd) ∧ W.cell? ⟨(w.heap.size + 1), 5, none⟩ = some (.int .u32 cf) ∧ W.cell? ⟨(w.heap.size + 1), 6, none⟩ = some (.int .u64 cx) ∧ W.cell? ⟨(w.heap.size + 1), 7, none⟩ = some (.string cb)) ∧ (W.cell? ⟨(w.heap.size + 1 + 1), 0, none⟩ = some (.string zk) ∧ W.cell? ⟨(w.heap.size + 1 + 1), 1, none⟩ = some (.int .u64 zp) ∧ W.cell? ⟨(w.heap.size + 1 + 1), 2, none⟩ = some (.int .u32 zl) ∧ W.cell? ⟨(w.heap.size + 1 + 1), 3, none⟩ = some (.int .u8 zn) ∧ W.cell? ⟨(w.heap.size + 1 + 1), 4, none⟩ = some (.int .u8 zd) ∧ W.cell? ⟨(w.heap.size + 1 + 1), 5, none⟩ = some (.int .u32 zf) ∧ W.cell? ⟨(w.heap.size + 1 + 1), 6, none⟩ = some (.int .u64 zx) ∧ W.cell? ⟨(w.heap.size + 1 + 1), 7, none⟩ = some (.string zb)))) (by kernel_rfl) ?_ (fun hHeld => ?_)
  · (try dsimp only)
    exact ⟨⟨(at8 HA.out).1, (at8 HA.out).2.1, (at8 HA.out).2.2.1, (at8 HA.out).2.2.2.1, (at8 HA.out).2.2.2.2.1, (at8 HA.out).2.2.2.2.2.1, (at8 HA.out).2.2.2.2.2.2.1, (at8 HA.out).2.2.2.2.2.2.2.1⟩, ⟨(at8 HC.out).1, (at8 HC.out).2.1, (at8 HC.out).2.2.1, (at8 HC.out).2.2.2.1, (at8 HC.out).2.2.2.2.1, (at8 HC.out).2.2.2.2.2.1, (at8 HC.out).2.2.2.2.2.2.1, (at8 HC.out).2.2.2.2.2.2.2.1⟩, ⟨(at8 HZ.out).1, (at8 HZ.out).2.1, (at8 HZ.out).2.2.1, (at8 HZ.out).2.2.2.1, (at8 HZ.out).2.2.2.2.1, (at8 HZ.out).2.2.2.2.2.1, (at8 HZ.out).2.2.2.2.2.2.1, (at8 HZ.out).2.2.2.2.2.2.2.1⟩⟩
  refine Draw.take_w (i := 0) (v := ?vv58) rfl (by kernel_rfl) (by kernel_rfl) (by kernel_rfl) (fun _ _ _ h => h) (by rfl) ?hy58 (by assumption) ?rest58
  case hy58 => ((intro w hSw); (try dsimp only at hSw); go_simp; (try with_reducible rfl))
  (try simp only [Act.put, List.setIfInBounds_toArray, List.set_cons_zero, List.set_cons_succ])
  refine Draw.take_w (i := 1) (v := ?vv59) rfl (by kernel_rfl) (by kernel_rfl) (by kernel_rfl) (fun _ _ _ h => h) (by rfl) ?hy59 (by assumption) ?rest59
  case hy59 => ((intro w hSw); (try dsimp only at hSw); go_simp; (try with_reducible rfl))
  (try simp only [Act.put, List.setIfInBounds_toArray, List.set_cons_zero, List.set_cons_succ])
  refine Draw.take_w (i := 3) (v := ?vv60) rfl (by kernel_rfl) (by kernel_rfl) (by kernel_rfl) (fun _ _ _ h => h) (by rfl) ?hy60 (by assumption) ?rest60
  case hy60 => ((intro w hSw); (try dsimp only at hSw); go_simp; (try with_reducible rfl))
  (try simp only [Act.put, List.setIfInBounds_toArray, List.set_cons_zero, List.set_cons_succ])
  refine Draw.take_w (i := 4) (v := ?vv61) rfl (by kernel_rfl) (by kernel_rfl) (by kernel_rfl) (fun _ _ _ h => h) (by rfl) ?hy61 (by assumption) ?rest61
  case hy61 => ((intro w hSw); (try dsimp only at hSw); go_simp; (try with_reducible rfl))
  (try simp only [Act.put, List.setIfInBounds_toArray, List.set_cons_zero, List.set_cons_succ])
  refine Draw.take_w (i := 6) (v := ?vv62) rfl (by kernel_rfl) (by kernel_rfl) (by kernel_rfl) (fun _ _ _ h => h) (by rfl) ?hy62 (by assumption) ?rest62
  case hy62 => ((intro w hSw); (try dsimp only at hSw); go_simp; (try with_reducible rfl))
  (try simp only [Act.put, List.setIfInBounds_toArray, List.set_cons_zero, List.set_cons_succ])
  refine Draw.take_w (i := 7) (v := ?vv63) rfl (by kernel_rfl) (by kernel_rfl) (by kernel_rfl) (fun _ _ _ h => h) (by rfl) ?hy63 (by assumption) ?rest63
  case hy63 => ((intro w hSw); (try dsimp only at hSw); go_simp; (try with_reducible rfl))
  (try simp only [Act.put, List.setIfInBounds_toArray, List.set_cons_zero, List.set_cons_succ])
  refine Draw.call_d (i := 2) rfl (by kernel_rfl) (by rfl) (fun K hK => ?_)
  go_simp
  refine (H1.out _).mono ?_
  rintro e w2 ⟨rfl, b2⟩
  replace HA := Lib.hid (at_below HA.out b2)
  replace HC := Lib.hid (at_below HC.out b2)
  replace HZ := Lib.hid (at_below HZ.out b2)
  replace HB := Lib.hid (below_on HB.out b2)
  clear b2
  refine hK.out _ _ ?_ (fun hHeld => ?_)
  · (try dsimp only)
    exact ⟨⟨(at8 HA.out).1, (at8 HA.out).2.1, (at8 HA.out).2.2.1, (at8 HA.out).2.2.2.1, (at8 HA.out).2.2.2.2.1, (at8 HA.out).2.2.2.2.2.1, (at8 HA.out).2.2.2.2.2.2.1, (at8 HA.out).2.2.2.2.2.2.2.1⟩, ⟨(at8 HC.out).1, (at8 HC.out).2.1, (at8 HC.out).2.2.1, (at8 HC.out).2.2.2.1, (at8 HC.out).2.2.2.2.1, (at8 HC.out).2.2.2.2.2.1, (at8 HC.out).2.2.2.2.2.2.1, (at8 HC.out).2.2.2.2.2.2.2.1⟩, ⟨(at8 HZ.out).1, (at8 HZ.out).2.1, (at8 HZ.out).2.2.1, (at8 HZ.out).2.2.2.1, (at8 HZ.out).2.2.2.2.1, (at8 HZ.out).2.2.2.2.2.1, (at8 HZ.out).2.2.2.2.2.2.1, (at8 HZ.out).2.2.2.2.2.2.2.1⟩⟩
  clear hK K
  (try simp only [Act.put, List.setIfInBounds_toArray, List.set_cons_zero, List.set_cons_succ])
  refine Draw.call_d (i := 5) rfl (by kernel_rfl) (by rfl) (fun K hK => ?_)
  go_simp
  refine (H2.out _).mono ?_
  rintro e w3 ⟨rfl, b2⟩
  replace HA := Lib.hid (at_below HA.out b2)
  replace HC := Lib.hid (at_below HC.out b2)
  replace HZ := Lib.hid (at_below HZ.out b2)
  replace HB := Lib.hid (below_on HB.out b2)
  clear b2
  refine hK.out _ _ ?_ (fun hHeld => ?_)
  · (try dsimp only)
    exact ⟨⟨(at8 HA.out).1, (at8 HA.out).2.1, (at8 HA.out).2.2.1, (at8 HA.out).2.2.2.1, (at8 HA.out).2.2.2.2.1, (at8 HA.out).2.2.2.2.2.1, (at8 HA.out).2.2.2.2.2.2.1, (at8 HA.out).2.2.2.2.2.2.2.1⟩, ⟨(at8 HC.out).1, (at8 HC.out).2.1, (at8 HC.out).2.2.1, (at8 HC.out).2.2.2.1, (at8 HC.out).2.2.2.2.1, (at8 HC.out).2.2.2.2.2.1, (at8 HC.out).2.2.2.2.2.2.1, (at8 HC.out).2.2.2.2.2.2.2.1⟩, ⟨(at8 HZ.out).1, (at8 HZ.out).2.1, (at8 HZ.out).2.2.1, (at8 HZ.out).2.2.2.1, (at8 HZ.out).2.2.2.2.1, (at8 HZ.out).2.2.2.2.2.1, (at8 HZ.out).2.2.2.2.2.2.1, (at8 HZ.out).2.2.2.2.2.2.2.1⟩⟩
  clear hK K
  (try simp only [Act.put, List.setIfInBounds_toArray, List.set_cons_zero, List.set_cons_succ])
  refine Draw.call_d (i := 8) rfl (by kernel_rfl) (by rfl) (fun K hK => ?_)
  go_simp
  refine (H3.out _).mono ?_
  rintro e w4 ⟨rfl, b2⟩
  replace HA := Lib.hid (at_below HA.out b2)
  replace HC := Lib.hid (at_below HC.out b2)
  replace HZ := Lib.hid (at_below HZ.out b2)
  replace HB := Lib.hid (below_on HB.out b2)
  clear b2
  refine hK.out _ _ ?_ (fun hHeld => ?_)
  · (try dsimp only)
    exact ⟨⟨(at8 HA.out).1, (at8 HA.out).2.1, (at8 HA.out).2.2.1, (at8 HA.out).2.2.2.1, (at8 HA.out).2.2.2.2.1, (at8 HA.out).2.2.2.2.2.1, (at8 HA.out).2.2.2.2.2.2.1, (at8 HA.out).2.2.2.2.2.2.2.1⟩, ⟨(at8 HC.out).1, (at8 HC.out).2.1, (at8 HC.out).2.2.1, (at8 HC.out).2.2.2.1, (at8 HC.out).2.2.2.2.1, (at8 HC.out).2.2.2.2.2.1, (at8 HC.out).2.2.2.2.2.2.1, (at8 HC.out).2.2.2.2.2.2.2.1⟩, ⟨(at8 HZ.out).1, (at8 HZ.out).2.1, (at8 HZ.out).2.2.1, (at8 HZ.out).2.2.2.1, (at8 HZ.out).2.2.2.2.1, (at8 HZ.out).2.2.2.2.2.1, (at8 HZ.out).2.2.2.2.2.2.1, (at8 HZ.out).2.2.2.2.2.2.2.1⟩⟩
  clear hK K
  (try simp only [Act.put, List.setIfInBounds_toArray, List.set_cons_zero, List.set_cons_succ])
  refine Draw.take_w (i := 9) (v := ?vv64) rfl (by kernel_rfl) (by kernel_rfl) (by kernel_rfl) (fun _ _ _ h => h) (by rfl) ?hy64 (by assumption) ?rest64
  case hy64 => ((intro w hSw); (try dsimp only at hSw); go_simp; (try with_reducible rfl))
  (try simp only [Act.put, List.setIfInBounds_toArray, List.set_cons_zero, List.set_cons_succ])
  refine Draw.take_w (i := 10) (v := ?vv65) rfl (by kernel_rfl) (by kernel_rfl) (by kernel_rfl) (fun _ _ _ h => h) (by rfl) ?hy65 (by assumption) ?rest65
  case hy65 => ((intro w hSw); (try dsimp only at hSw); go_simp; (try with_reducible rfl))
  (try simp only [Act.put, List.setIfInBounds_toArray, List.set_cons_zero, List.set_cons_succ])
  refine Draw.take_w (i := 11) (v := ?vv66) rfl (by kernel_rfl) (by kernel_rfl) (by kernel_rfl) (fun _ _ _ h => h) (by rfl) ?hy66 (by assumption) ?rest66
  case hy66 => ((intro w hSw); (try dsimp only at hSw); go_simp; (try with_reducible rfl))
  (try simp only [Act.put, List.setIfInBounds_toArray, List.set_cons_zero, List.set_cons_succ])
  refine wpAnyH_done (by kernel_rfl) ?_ _
  obtain ⟨x0, x1, x2, x3, x4, x5, x6, x7, -⟩ := at8 HA.out
  obtain ⟨y0, y1, y2, y3, y4, y5, y6, y7, -⟩ := at8 HC.out
  have q1 := At.lt HA.out
  have q2 := At.lt HC.out
  go_upto_region 6 with (fail)
  have HD := Lib.hid (at_new w4 #[.string ak, .int .u64 cp, .int .u32 cl, .int .u8 cn, .int .u8 cd, .int .u32 cf, .int .u64 cx, .string cb] 27)
  replace HA := Lib.hid (at_alloc (o := .cells #[.string ak, .int .u64 cp, .int .u32 cl, .int .u8 cn, .int .u8 cd, .int .u32 cf, .int .u64 cx, .string cb] 27) HA.out)
  replace HC := Lib.hid (at_alloc (o := .cells #[.string ak, .int .u64 cp, .int .u32 cl, .int .u8 cn, .int .u8 cd, .int .u32 cf, .int .u64 cx, .string cb] 27) HC.out)
  replace HB := Lib.hid (below_al (o := .cells #[.string ak, .int .u64 cp, .int .u32 cl, .int .u8 cn, .int .u8 cd, .int .u32 cf, .int .u64 cx, .string cb] 27) HB.out)
  clear HZ x0 x1 x2 x3 x4 x5 x6 x7 y0 y1 y2 y3 y4 y5 y6 y7 q1 q2
  generalize w4.alloc (.cells #[.string ak, .int .u64 cp, .int .u32 cl, .int .u8 cn, .int .u8 cd, .int .u32 cf, .int .u64 cx, .string cb] 27) = w5 at *
  generalize w4.heap.size = v at *
  go_wp2_with (fail)
  refine (H0.out _).mono ?_
  rintro e w6 ⟨rfl, b2⟩
  replace HA := Lib.hid (at_below HA.out b2)
  replace HC := Lib.hid (at_below HC.out b2)
  replace HD := Lib.hid (at_below HD.out b2)
  replace HB := Lib.hid (below_on HB.out b2)
  clear b2
  obtain ⟨x0, x1, x2, x3, x4, x5, x6, x7, -⟩ := at8 HA.out
  obtain ⟨y0, y1, y2, y3, y4, y5, y6, y7, -⟩ := at8 HC.out
  go_wp2_with (fail)
  clear x0 x1 x2 x3 x4 x5 x6 x7 y0 y1 y2 y3 y4 y5 y6 y7
  refine (H4.out _).mono ?_
  rintro e w7 ⟨rfl, b2⟩
  replace HA := Lib.hid (at_below HA.out b2)
  replace HC := Lib.hid (at_below HC.out b2)
  replace HD := Lib.hid (at_below HD.out b2)
  replace HB := Lib.hid (below_on HB.out b2)
  clear b2
  obtain ⟨x0, x1, x2, x3, x4, x5, x6, x7, -⟩ := at8 HA.out
  obtain ⟨y0, y1, y2, y3, y4, y5, y6, y7, -⟩ := at8 HD.out
  go_wp2_with (fail)
  go_ret
  exact ⟨rfl, HB.out⟩
set_option maxRecDepth 100000 in
set_option maxHeartbeats 1600000 in
theorem order_x (ak : ByteArray) (ap al an ad af ax : Int) (ab : ByteArray) (ck : ByteArray) (cp cl cn cd cf cx : Int) (cb : ByteArray) (zk : ByteArray) (zp zl zn zd zf zx : Int) (zb : ByteArray) (w : World) (hg : (gr ak ab || gr ck cb || gr zk zb) = false)  (hh : cmpR ap al an ad af ax ab cp cl cn cd cf cx cb = 0 ∧ cmpR cp cl cn cd cf cx cb zp zl zn zd zf zx zb < 0 ∧ cmpR ap al an ad af ax ab zp zl zn zd zf zx zb < 0) : Calls Try.prog 3 #[.agg #[.string ak, .int .u64 ap, .int .u32 al, .int .u8 an, .int .u8 ad, .int .u32 af, .int .u64 ax, .string ab], .agg #[.string ck, .int .u64 cp, .int .u32 cl, .int .u8 cn, .int .u8 cd, .int .u32 cf, .int .u64 cx, .string cb], .agg #[.string zk, .int .u64 zp, .int .u32 zl, .int .u8 zn, .int .u8 zd, .int .u32 zf, .int .u64 zx, .string zb]] w fun e w' => e = .returned (.bool true) ∧ Below w.heap.size w w' := by
  have HG := Lib.hid (fun b t w h => great3 ak ap al an ad af ax ab ck cp cl cn cd cf cx cb zk zp zl zn zd zf zx zb b t w h)
  rw [hg] at HG
  have hn : cmpR cp cl cn cd cf cx cb ap al an ad af ax ab = - cmpR ap al an ad af ax ab cp cl cn cd cf cx cb := cmp2_neg ⟨ap, al, an, ad, af, ax, ab⟩ ⟨cp, cl, cn, cd, cf, cx, cb⟩
  have g4 := fun w => rcompare_any ck cp cl cn cd cf cx cb ak ap al an ad af ax ab w
  rw [hn] at g4
  have H0 := Lib.hid fixed_any
  have H1 := Lib.hid (fun w => rcompare_any ak ap al an ad af ax ab ck cp cl cn cd cf cx cb w)
  have H2 := Lib.hid (fun w => rcompare_any ck cp cl cn cd cf cx cb zk zp zl zn zd zf zx zb w)
  have H3 := Lib.hid (fun w => rcompare_any ak ap al an ad af ax ab zk zp zl zn zd zf zx zb w)
  have H4 := Lib.hid g4
  clear g4 hn
  have hx3 : cmpR ap al an ad af ax ab cp cl cn cd cf cx cb = -1 ∨ cmpR ap al an ad af ax ab cp cl cn cd cf cx cb = 0 ∨ cmpR ap al an ad af ax ab cp cl cn cd cf cx cb = 1 := cmp2_three ⟨ap, al, an, ad, af, ax, ab⟩ ⟨cp, cl, cn, cd, cf, cx, cb⟩
  have hq := fun w => eqRec_cmp w ak ap al an ad af ax ab cp cl cn cd cf cx cb
  generalize cmpR ap al an ad af ax ab cp cl cn cd cf cx cb = x at *
  generalize cmpR cp cl cn cd cf cx cb zp zl zn zd zf zx zb = y at *
  generalize cmpR ap al an ad af ax ab zp zl zn zd zf zx zb = z at *
  have hwr : IntKind.i64.wrap (-x) = -x := by rcases hx3 with h | h | h <;> rw [h] <;> decide
  clear hx3
  rw [show (x == 0) = true from beq_iff_eq.2 (by omega)] at hq
  have hq2 := fun w => run_eql_struct (P := Try.prog) (w := w) 27 #[.string ak, .int .u64 ap, .int .u32 al, .int .u8 an, .int .u8 ad, .int .u32 af, .int .u64 ax, .string ab] #[.string ak, .int .u64 cp, .int .u32 cl, .int .u8 cn, .int .u8 cd, .int .u32 cf, .int .u64 cx, .string cb]
  simp only [hq, Result.andThen] at hq2
  have k0 : (x == 0) = true := beq_iff_eq.2 (by omega)
  have c0 : decide (0 < x) = false := decide_eq_false (by omega)
  have c1 : decide (0 < y) = false := decide_eq_false (by omega)
  have c2 : decide (z ≤ 0) = true := decide_eq_true (by omega)
  have c3 : decide (z < 0) = true := decide_eq_true (by omega)
  have c4 : decide (x < 0) = false := decide_eq_false (by omega)
  have c5 : decide (y < 0) = true := decide_eq_true (by omega)
  clear hh
  go_enter Try.func3, Try.ntmps3
  go_wp2_with (fail)
  have hA2 := at_new (((w.alloc (.cells #[.string ak, .int .u64 ap, .int .u32 al, .int .u8 an, .int .u8 ad, .int .u32 af, .int .u64 ax, .string ab] 27)).alloc (.cells #[.string ck, .int .u64 cp, .int .u32 cl, .int .u8 cn, .int .u8 cd, .int .u32 cf, .int .u64 cx, .string cb] 27)).alloc (.cells #[.string zk, .int .u64 zp, .int .u32 zl, .int .u8 zn, .int .u8 zd, .int .u32 zf, .int .u64 zx, .string zb] 27)) #[.string ak, .int .u64 ap, .int .u32 al, .int .u8 an, .int .u8 ad, .int .u32 af, .int .u64 ax, .string ab, .string ck, .int .u64 cp, .int .u32 cl, .int .u8 cn, .int .u8 cd, .int .u32 cf, .int .u64 cx, .string cb, .string zk, .int .u64 zp, .int .u32 zl, .int .u8 zn, .int .u8 zd, .int .u32 zf, .int .u64 zx, .string zb] 27
  have HA := Lib.hid (at_alloc (o := .cells #[.string ak, .int .u64 ap, .int .u32 al, .int .u8 an, .int .u8 ad, .int .u32 af, .int .u64 ax, .string ab, .string ck, .int .u64 cp, .int .u32 cl, .int .u8 cn, .int .u8 cd, .int .u32 cf, .int .u64 cx, .string cb, .string zk, .int .u64 zp, .int .u32 zl, .int .u8 zn, .int .u8 zd, .int .u32 zf, .int .u64 zx, .string zb] 27) (at_alloc (o := .cells #[.string zk, .int .u64 zp, .int .u32 zl, .int .u8 zn, .int .u8 zd, .int .u32 zf, .int .u64 zx, .string zb] 27) (at_alloc (o := .cells #[.string ck, .int .u64 cp, .int .u32 cl, .int .u8 cn, .int .u8 cd, .int .u32 cf, .int .u64 cx, .string cb] 27) (at_new w #[.string ak, .int .u64 ap, .int .u32 al, .int .u8 an, .int .u8 ad, .int .u32 af, .int .u64 ax, .string ab] 27))))
  have HC := Lib.hid (at_alloc (o := .cells #[.string ak, .int .u64 ap, .int .u32 al, .int .u8 an, .int .u8 ad, .int .u32 af, .int .u64 ax, .string ab, .string ck, .int .u64 cp, .int .u32 cl, .int .u8 cn, .int .u8 cd, .int .u32 cf, .int .u64 cx, .string cb, .string zk, .int .u64 zp, .int .u32 zl, .int .u8 zn, .int .u8 zd, .int .u32 zf, .int .u64 zx, .string zb] 27) (at_alloc (o := .cells #[.string zk, .int .u64 zp, .int .u32 zl, .int .u8 zn, .int .u8 zd, .int .u32 zf, .int .u64 zx, .string zb] 27) (at_new (w.alloc (.cells #[.string ak, .int .u64 ap, .int .u32 al, .int .u8 an, .int .u8 ad, .int .u32 af, .int .u64 ax, .string ab] 27)) #[.string ck, .int .u64 cp, .int .u32 cl, .int .u8 cn, .int .u8 cd, .int .u32 cf, .int .u64 cx, .string cb] 27)))
  have HZ := Lib.hid (at_alloc (o := .cells #[.string ak, .int .u64 ap, .int .u32 al, .int .u8 an, .int .u8 ad, .int .u32 af, .int .u64 ax, .string ab, .string ck, .int .u64 cp, .int .u32 cl, .int .u8 cn, .int .u8 cd, .int .u32 cf, .int .u64 cx, .string cb, .string zk, .int .u64 zp, .int .u32 zl, .int .u8 zn, .int .u8 zd, .int .u32 zf, .int .u64 zx, .string zb] 27) (at_new ((w.alloc (.cells #[.string ak, .int .u64 ap, .int .u32 al, .int .u8 an, .int .u8 ad, .int .u32 af, .int .u64 ax, .string ab] 27)).alloc (.cells #[.string ck, .int .u64 cp, .int .u32 cl, .int .u8 cn, .int .u8 cd, .int .u32 cf, .int .u64 cx, .string cb] 27)) #[.string zk, .int .u64 zp, .int .u32 zl, .int .u8 zn, .int .u8 zd, .int .u32 zf, .int .u64 zx, .string zb] 27))
  have HB := Lib.hid (below_al (o := .cells #[.string ak, .int .u64 ap, .int .u32 al, .int .u8 an, .int .u8 ad, .int .u32 af, .int .u64 ax, .string ab, .string ck, .int .u64 cp, .int .u32 cl, .int .u8 cn, .int .u8 cd, .int .u32 cf, .int .u64 cx, .string cb, .string zk, .int .u64 zp, .int .u32 zl, .int .u8 zn, .int .u8 zd, .int .u32 zf, .int .u64 zx, .string zb] 27) (below_al (o := .cells #[.string zk, .int .u64 zp, .int .u32 zl, .int .u8 zn, .int .u8 zd, .int .u32 zf, .int .u64 zx, .string zb] 27) (below_al (o := .cells #[.string ck, .int .u64 cp, .int .u32 cl, .int .u8 cn, .int .u8 cd, .int .u32 cf, .int .u64 cx, .string cb] 27) (below_al (o := .cells #[.string ak, .int .u64 ap, .int .u32 al, .int .u8 an, .int .u8 ad, .int .u32 af, .int .u64 ax, .string ab] 27) (Below.refl w.heap.size w)))))
  simp only [World.size_alloc] at hA2 HC HZ
  refine (HG.out (w.heap.size + 1 + 1 + 1) _ _ hA2).mono ?_
  rintro e w1 ⟨rfl, b1⟩
  clear hA2
  replace HA := Lib.hid (at_below HA.out b1)
  replace HC := Lib.hid (at_below HC.out b1)
  replace HZ := Lib.hid (at_below HZ.out b1)
  replace HB := Lib.hid (below_on HB.out b1)
  clear b1
  go_wp2_with (fail)
  replace HA := Lib.hid (at_drew HA.out)
  replace HC := Lib.hid (at_drew HC.out)
  replace HZ := Lib.hid (at_drew HZ.out)
  replace HB := Lib.hid (Below.drew HB.out)
  refine wp_region_held_drew (S := (fun W => (W.cell? ⟨w.heap.size, 0, none⟩ = some (.string ak) ∧ W.cell? ⟨w.heap.size, 1, none⟩ = some (.int .u64 ap) ∧ W.cell? ⟨w.heap.size, 2, none⟩ = some (.int .u32 al) ∧ W.cell? ⟨w.heap.size, 3, none⟩ = some (.int .u8 an) ∧ W.cell? ⟨w.heap.size, 4, none⟩ = some (.int .u8 ad) ∧ W.cell? ⟨w.heap.size, 5, none⟩ = some (.int .u32 af) ∧ W.cell? ⟨w.heap.size, 6, none⟩ = some (.int .u64 ax) ∧ W.cell? ⟨w.heap.size, 7, none⟩ = some (.string ab)) ∧ (W.cell? ⟨(w.heap.size + 1), 0, none⟩ = some (.string ck) ∧ W.cell? ⟨(w.heap.size + 1), 1, none⟩ = some (.int .u64 cp) ∧ W.cell? ⟨(w.heap.size + 1), 2, none⟩ = some (.int .u32 cl) ∧ W.cell? ⟨(w.heap.size + 1), 3, none⟩ = some (.int .u8 cn) ∧ W.cell? ⟨(w.heap.size + 1), 4, none⟩ = some (.int .u8 cd) ∧ W.cell? ⟨(w.heap.size + 1), 5, none⟩ = some (.int .u32 cf) ∧ W.cell? ⟨(w.heap.size + 1), 6, none⟩ = some (.int .u64 cx) ∧ W.cell? ⟨(w.heap.size + 1), 7, none⟩ = some (.string cb)) ∧ (W.cell? ⟨(w.heap.size + 1 + 1), 0, none⟩ = some (.string zk) ∧ W.cell? ⟨(w.heap.size + 1 + 1), 1, none⟩ = some (.int .u64 zp) ∧ W.cell? ⟨(w.heap.size + 1 + 1), 2, none⟩ = some (.int .u32 zl) ∧ W.cell? ⟨(w.heap.size + 1 + 1), 3, none⟩ = some (.int .u8 zn) ∧ W.cell? ⟨(w.heap.size + 1 + 1), 4, none⟩ = some (.int .u8 zd) ∧ W.cell? ⟨(w.heap.size + 1 + 1), 5, none⟩ = some (.int .u32 zf) ∧ W.cell? ⟨(w.heap.size + 1 + 1), 6, none⟩ = some (.int .u64 zx) ∧ W.cell? ⟨(w.heap.size + 1 + 1), 7, none⟩ = some (.string zb)))) (by kernel_rfl) ?_ (fun hHeld => ?_)
  · (try dsimp only)
    exact ⟨⟨(at8 HA.out).1, (at8 HA.out).2.1, (at8 HA.out).2.2.1, (at8 HA.out).2.2.2.1, (at8 HA.out).2.2.2.2.1, (at8 HA.out).2.2.2.2.2.1, (at8 HA.out).2.2.2.2.2.2.1, (at8 HA.out).2.2.2.2.2.2.2.1⟩, ⟨(at8 HC.out).1, (at8 HC.out).2.1, (at8 HC.out).2.2.1, (at8 HC.out).2.2.2.1, (at8 HC.out).2.2.2.2.1, (at8 HC.out).2.2.2.2.2.1, (at8 HC.out).2.2.2.2.2.2.1, (at8 HC.out).2.2.2.2.2.2.2.1⟩, ⟨(at8 HZ.out).1, (at8 HZ.out).2.1, (at8 HZ.out).2.2.1, (at8 HZ.out).2.2.2.1, (at8 HZ.out).2.2.2.2.1, (at8 HZ.out).2.2.2.2.2.1, (at8 HZ.out).2.2.2.2.2.2.1, (at8 HZ.out).2.2.2.2.2.2.2.1⟩⟩
  refine Draw.take_w (i := 0) (v := ?vv67) rfl (by kernel_rfl) (by kernel_rfl) (by kernel_rfl) (fun _ _ _ h => h) (by rfl) ?hy67 (by assumption) ?rest67
  case hy67 => ((intro w hSw); (try dsimp only at hSw); go_simp; (try with_reducible rfl))
  (try simp only [Act.put, List.setIfInBounds_toArray, List.set_cons_zero, List.set_cons_succ])
  refine Draw.take_w (i := 1) (v := ?vv68) rfl (by kernel_rfl) (by kernel_rfl) (by kernel_rfl) (fun _ _ _ h => h) (by rfl) ?hy68 (by assumption) ?rest68
  case hy68 => ((intro w hSw); (try dsimp only at hSw); go_simp; (try with_reducible rfl))
  (try simp only [Act.put, List.setIfInBounds_toArray, List.set_cons_zero, List.set_cons_succ])
  refine Draw.take_w (i := 3) (v := ?vv69) rfl (by kernel_rfl) (by kernel_rfl) (by kernel_rfl) (fun _ _ _ h => h) (by rfl) ?hy69 (by assumption) ?rest69
  case hy69 => ((intro w hSw); (try dsimp only at hSw); go_simp; (try with_reducible rfl))
  (try simp only [Act.put, List.setIfInBounds_toArray, List.set_cons_zero, List.set_cons_succ])
  refine Draw.take_w (i := 4) (v := ?vv70) rfl (by kernel_rfl) (by kernel_rfl) (by kernel_rfl) (fun _ _ _ h => h) (by rfl) ?hy70 (by assumption) ?rest70
  case hy70 => ((intro w hSw); (try dsimp only at hSw); go_simp; (try with_reducible rfl))
  (try simp only [Act.put, List.setIfInBounds_toArray, List.set_cons_zero, List.set_cons_succ])
  refine Draw.take_w (i := 6) (v := ?vv71) rfl (by kernel_rfl) (by kernel_rfl) (by kernel_rfl) (fun _ _ _ h => h) (by rfl) ?hy71 (by assumption) ?rest71
  case hy71 => ((intro w hSw); (try dsimp only at hSw); go_simp; (try with_reducible rfl))
  (try simp only [Act.put, List.setIfInBounds_toArray, List.set_cons_zero, List.set_cons_succ])
  refine Draw.take_w (i := 7) (v := ?vv72) rfl (by kernel_rfl) (by kernel_rfl) (by kernel_rfl) (fun _ _ _ h => h) (by rfl) ?hy72 (by assumption) ?rest72
  case hy72 => ((intro w hSw); (try dsimp only at hSw); go_simp; (try with_reducible rfl))
  (try simp only [Act.put, List.setIfInBounds_toArray, List.set_cons_zero, List.set_cons_succ])
  refine Draw.call_d (i := 2) rfl (by kernel_rfl) (by rfl) (fun K hK => ?_)
  go_simp
  refine (H1.out _).mono ?_
  rintro e w2 ⟨rfl, b2⟩
  replace HA := Lib.hid (at_below HA.out b2)
  replace HC := Lib.hid (at_below HC.out b2)
  replace HZ := Lib.hid (at_below HZ.out b2)
  replace HB := Lib.hid (below_on HB.out b2)
  clear b2
  refine hK.out _ _ ?_ (fun hHeld => ?_)
  · (try dsimp only)
    exact ⟨⟨(at8 HA.out).1, (at8 HA.out).2.1, (at8 HA.out).2.2.1, (at8 HA.out).2.2.2.1, (at8 HA.out).2.2.2.2.1, (at8 HA.out).2.2.2.2.2.1, (at8 HA.out).2.2.2.2.2.2.1, (at8 HA.out).2.2.2.2.2.2.2.1⟩, ⟨(at8 HC.out).1, (at8 HC.out).2.1, (at8 HC.out).2.2.1, (at8 HC.out).2.2.2.1, (at8 HC.out).2.2.2.2.1, (at8 HC.out).2.2.2.2.2.1, (at8 HC.out).2.2.2.2.2.2.1, (at8 HC.out).2.2.2.2.2.2.2.1⟩, ⟨(at8 HZ.out).1, (at8 HZ.out).2.1, (at8 HZ.out).2.2.1, (at8 HZ.out).2.2.2.1, (at8 HZ.out).2.2.2.2.1, (at8 HZ.out).2.2.2.2.2.1, (at8 HZ.out).2.2.2.2.2.2.1, (at8 HZ.out).2.2.2.2.2.2.2.1⟩⟩
  clear hK K
  (try simp only [Act.put, List.setIfInBounds_toArray, List.set_cons_zero, List.set_cons_succ])
  refine Draw.call_d (i := 5) rfl (by kernel_rfl) (by rfl) (fun K hK => ?_)
  go_simp
  refine (H2.out _).mono ?_
  rintro e w3 ⟨rfl, b2⟩
  replace HA := Lib.hid (at_below HA.out b2)
  replace HC := Lib.hid (at_below HC.out b2)
  replace HZ := Lib.hid (at_below HZ.out b2)
  replace HB := Lib.hid (below_on HB.out b2)
  clear b2
  refine hK.out _ _ ?_ (fun hHeld => ?_)
  · (try dsimp only)
    exact ⟨⟨(at8 HA.out).1, (at8 HA.out).2.1, (at8 HA.out).2.2.1, (at8 HA.out).2.2.2.1, (at8 HA.out).2.2.2.2.1, (at8 HA.out).2.2.2.2.2.1, (at8 HA.out).2.2.2.2.2.2.1, (at8 HA.out).2.2.2.2.2.2.2.1⟩, ⟨(at8 HC.out).1, (at8 HC.out).2.1, (at8 HC.out).2.2.1, (at8 HC.out).2.2.2.1, (at8 HC.out).2.2.2.2.1, (at8 HC.out).2.2.2.2.2.1, (at8 HC.out).2.2.2.2.2.2.1, (at8 HC.out).2.2.2.2.2.2.2.1⟩, ⟨(at8 HZ.out).1, (at8 HZ.out).2.1, (at8 HZ.out).2.2.1, (at8 HZ.out).2.2.2.1, (at8 HZ.out).2.2.2.2.1, (at8 HZ.out).2.2.2.2.2.1, (at8 HZ.out).2.2.2.2.2.2.1, (at8 HZ.out).2.2.2.2.2.2.2.1⟩⟩
  clear hK K
  (try simp only [Act.put, List.setIfInBounds_toArray, List.set_cons_zero, List.set_cons_succ])
  refine Draw.call_d (i := 8) rfl (by kernel_rfl) (by rfl) (fun K hK => ?_)
  go_simp
  refine (H3.out _).mono ?_
  rintro e w4 ⟨rfl, b2⟩
  replace HA := Lib.hid (at_below HA.out b2)
  replace HC := Lib.hid (at_below HC.out b2)
  replace HZ := Lib.hid (at_below HZ.out b2)
  replace HB := Lib.hid (below_on HB.out b2)
  clear b2
  refine hK.out _ _ ?_ (fun hHeld => ?_)
  · (try dsimp only)
    exact ⟨⟨(at8 HA.out).1, (at8 HA.out).2.1, (at8 HA.out).2.2.1, (at8 HA.out).2.2.2.1, (at8 HA.out).2.2.2.2.1, (at8 HA.out).2.2.2.2.2.1, (at8 HA.out).2.2.2.2.2.2.1, (at8 HA.out).2.2.2.2.2.2.2.1⟩, ⟨(at8 HC.out).1, (at8 HC.out).2.1, (at8 HC.out).2.2.1, (at8 HC.out).2.2.2.1, (at8 HC.out).2.2.2.2.1, (at8 HC.out).2.2.2.2.2.1, (at8 HC.out).2.2.2.2.2.2.1, (at8 HC.out).2.2.2.2.2.2.2.1⟩, ⟨(at8 HZ.out).1, (at8 HZ.out).2.1, (at8 HZ.out).2.2.1, (at8 HZ.out).2.2.2.1, (at8 HZ.out).2.2.2.2.1, (at8 HZ.out).2.2.2.2.2.1, (at8 HZ.out).2.2.2.2.2.2.1, (at8 HZ.out).2.2.2.2.2.2.2.1⟩⟩
  clear hK K
  (try simp only [Act.put, List.setIfInBounds_toArray, List.set_cons_zero, List.set_cons_succ])
  refine Draw.take_w (i := 9) (v := ?vv73) rfl (by kernel_rfl) (by kernel_rfl) (by kernel_rfl) (fun _ _ _ h => h) (by rfl) ?hy73 (by assumption) ?rest73
  case hy73 => ((intro w hSw); (try dsimp only at hSw); go_simp; (try with_reducible rfl))
  (try simp only [Act.put, List.setIfInBounds_toArray, List.set_cons_zero, List.set_cons_succ])
  refine Draw.take_w (i := 10) (v := ?vv74) rfl (by kernel_rfl) (by kernel_rfl) (by kernel_rfl) (fun _ _ _ h => h) (by rfl) ?hy74 (by assumption) ?rest74
  case hy74 => ((intro w hSw); (try dsimp only at hSw); go_simp; (try with_reducible rfl))
  (try simp only [Act.put, List.setIfInBounds_toArray, List.set_cons_zero, List.set_cons_succ])
  refine Draw.take_w (i := 11) (v := ?vv75) rfl (by kernel_rfl) (by kernel_rfl) (by kernel_rfl) (fun _ _ _ h => h) (by rfl) ?hy75 (by assumption) ?rest75
  case hy75 => ((intro w hSw); (try dsimp only at hSw); go_simp; (try with_reducible rfl))
  (try simp only [Act.put, List.setIfInBounds_toArray, List.set_cons_zero, List.set_cons_succ])
  refine wpAnyH_done (by kernel_rfl) ?_ _
  obtain ⟨x0, x1, x2, x3, x4, x5, x6, x7, -⟩ := at8 HA.out
  obtain ⟨y0, y1, y2, y3, y4, y5, y6, y7, -⟩ := at8 HC.out
  have q1 := At.lt HA.out
  have q2 := At.lt HC.out
  go_upto_region 6 with (fail)
  have HD := Lib.hid (at_new w4 #[.string ak, .int .u64 cp, .int .u32 cl, .int .u8 cn, .int .u8 cd, .int .u32 cf, .int .u64 cx, .string cb] 27)
  replace HA := Lib.hid (at_alloc (o := .cells #[.string ak, .int .u64 cp, .int .u32 cl, .int .u8 cn, .int .u8 cd, .int .u32 cf, .int .u64 cx, .string cb] 27) HA.out)
  replace HC := Lib.hid (at_alloc (o := .cells #[.string ak, .int .u64 cp, .int .u32 cl, .int .u8 cn, .int .u8 cd, .int .u32 cf, .int .u64 cx, .string cb] 27) HC.out)
  replace HB := Lib.hid (below_al (o := .cells #[.string ak, .int .u64 cp, .int .u32 cl, .int .u8 cn, .int .u8 cd, .int .u32 cf, .int .u64 cx, .string cb] 27) HB.out)
  clear HZ x0 x1 x2 x3 x4 x5 x6 x7 y0 y1 y2 y3 y4 y5 y6 y7 q1 q2
  generalize w4.alloc (.cells #[.string ak, .int .u64 cp, .int .u32 cl, .int .u8 cn, .int .u8 cd, .int .u32 cf, .int .u64 cx, .string cb] 27) = w5 at *
  generalize w4.heap.size = v at *
  go_wp2_with (fail)
  refine (H0.out _).mono ?_
  rintro e w6 ⟨rfl, b2⟩
  replace HA := Lib.hid (at_below HA.out b2)
  replace HC := Lib.hid (at_below HC.out b2)
  replace HD := Lib.hid (at_below HD.out b2)
  replace HB := Lib.hid (below_on HB.out b2)
  clear b2
  obtain ⟨x0, x1, x2, x3, x4, x5, x6, x7, -⟩ := at8 HA.out
  obtain ⟨y0, y1, y2, y3, y4, y5, y6, y7, -⟩ := at8 HC.out
  go_wp2_with (fail)
  clear x0 x1 x2 x3 x4 x5 x6 x7 y0 y1 y2 y3 y4 y5 y6 y7
  refine (H4.out _).mono ?_
  rintro e w7 ⟨rfl, b2⟩
  replace HA := Lib.hid (at_below HA.out b2)
  replace HC := Lib.hid (at_below HC.out b2)
  replace HD := Lib.hid (at_below HD.out b2)
  replace HB := Lib.hid (below_on HB.out b2)
  clear b2
  obtain ⟨x0, x1, x2, x3, x4, x5, x6, x7, -⟩ := at8 HA.out
  obtain ⟨y0, y1, y2, y3, y4, y5, y6, y7, -⟩ := at8 HD.out
  go_wp2_with (fail)
  go_ret
  exact ⟨rfl, HB.out⟩
set_option maxRecDepth 100000 in
set_option maxHeartbeats 1600000 in
theorem order_y (ak : ByteArray) (ap al an ad af ax : Int) (ab : ByteArray) (ck : ByteArray) (cp cl cn cd cf cx : Int) (cb : ByteArray) (zk : ByteArray) (zp zl zn zd zf zx : Int) (zb : ByteArray) (w : World) (hg : (gr ak ab || gr ck cb || gr zk zb) = false)  (hh : cmpR ap al an ad af ax ab cp cl cn cd cf cx cb = 0 ∧ cmpR cp cl cn cd cf cx cb zp zl zn zd zf zx zb = 0 ∧ cmpR ap al an ad af ax ab zp zl zn zd zf zx zb = 0) : Calls Try.prog 3 #[.agg #[.string ak, .int .u64 ap, .int .u32 al, .int .u8 an, .int .u8 ad, .int .u32 af, .int .u64 ax, .string ab], .agg #[.string ck, .int .u64 cp, .int .u32 cl, .int .u8 cn, .int .u8 cd, .int .u32 cf, .int .u64 cx, .string cb], .agg #[.string zk, .int .u64 zp, .int .u32 zl, .int .u8 zn, .int .u8 zd, .int .u32 zf, .int .u64 zx, .string zb]] w fun e w' => e = .returned (.bool true) ∧ Below w.heap.size w w' := by
  have HG := Lib.hid (fun b t w h => great3 ak ap al an ad af ax ab ck cp cl cn cd cf cx cb zk zp zl zn zd zf zx zb b t w h)
  rw [hg] at HG
  have hn : cmpR cp cl cn cd cf cx cb ap al an ad af ax ab = - cmpR ap al an ad af ax ab cp cl cn cd cf cx cb := cmp2_neg ⟨ap, al, an, ad, af, ax, ab⟩ ⟨cp, cl, cn, cd, cf, cx, cb⟩
  have g4 := fun w => rcompare_any ck cp cl cn cd cf cx cb ak ap al an ad af ax ab w
  rw [hn] at g4
  have H0 := Lib.hid fixed_any
  have H1 := Lib.hid (fun w => rcompare_any ak ap al an ad af ax ab ck cp cl cn cd cf cx cb w)
  have H2 := Lib.hid (fun w => rcompare_any ck cp cl cn cd cf cx cb zk zp zl zn zd zf zx zb w)
  have H3 := Lib.hid (fun w => rcompare_any ak ap al an ad af ax ab zk zp zl zn zd zf zx zb w)
  have H4 := Lib.hid g4
  clear g4 hn
  have hx3 : cmpR ap al an ad af ax ab cp cl cn cd cf cx cb = -1 ∨ cmpR ap al an ad af ax ab cp cl cn cd cf cx cb = 0 ∨ cmpR ap al an ad af ax ab cp cl cn cd cf cx cb = 1 := cmp2_three ⟨ap, al, an, ad, af, ax, ab⟩ ⟨cp, cl, cn, cd, cf, cx, cb⟩
  have hq := fun w => eqRec_cmp w ak ap al an ad af ax ab cp cl cn cd cf cx cb
  generalize cmpR ap al an ad af ax ab cp cl cn cd cf cx cb = x at *
  generalize cmpR cp cl cn cd cf cx cb zp zl zn zd zf zx zb = y at *
  generalize cmpR ap al an ad af ax ab zp zl zn zd zf zx zb = z at *
  have hwr : IntKind.i64.wrap (-x) = -x := by rcases hx3 with h | h | h <;> rw [h] <;> decide
  clear hx3
  rw [show (x == 0) = true from beq_iff_eq.2 (by omega)] at hq
  have hq2 := fun w => run_eql_struct (P := Try.prog) (w := w) 27 #[.string ak, .int .u64 ap, .int .u32 al, .int .u8 an, .int .u8 ad, .int .u32 af, .int .u64 ax, .string ab] #[.string ak, .int .u64 cp, .int .u32 cl, .int .u8 cn, .int .u8 cd, .int .u32 cf, .int .u64 cx, .string cb]
  simp only [hq, Result.andThen] at hq2
  have k0 : (x == 0) = true := beq_iff_eq.2 (by omega)
  have c0 : decide (0 < x) = false := decide_eq_false (by omega)
  have c1 : decide (0 < y) = false := decide_eq_false (by omega)
  have c2 : decide (z ≤ 0) = true := decide_eq_true (by omega)
  have c3 : decide (z < 0) = false := decide_eq_false (by omega)
  have c4 : decide (x < 0) = false := decide_eq_false (by omega)
  have c5 : decide (y < 0) = false := decide_eq_false (by omega)
  clear hh
  go_enter Try.func3, Try.ntmps3
  go_wp2_with (fail)
  have hA2 := at_new (((w.alloc (.cells #[.string ak, .int .u64 ap, .int .u32 al, .int .u8 an, .int .u8 ad, .int .u32 af, .int .u64 ax, .string ab] 27)).alloc (.cells #[.string ck, .int .u64 cp, .int .u32 cl, .int .u8 cn, .int .u8 cd, .int .u32 cf, .int .u64 cx, .string cb] 27)).alloc (.cells #[.string zk, .int .u64 zp, .int .u32 zl, .int .u8 zn, .int .u8 zd, .int .u32 zf, .int .u64 zx, .string zb] 27)) #[.string ak, .int .u64 ap, .int .u32 al, .int .u8 an, .int .u8 ad, .int .u32 af, .int .u64 ax, .string ab, .string ck, .int .u64 cp, .int .u32 cl, .int .u8 cn, .int .u8 cd, .int .u32 cf, .int .u64 cx, .string cb, .string zk, .int .u64 zp, .int .u32 zl, .int .u8 zn, .int .u8 zd, .int .u32 zf, .int .u64 zx, .string zb] 27
  have HA := Lib.hid (at_alloc (o := .cells #[.string ak, .int .u64 ap, .int .u32 al, .int .u8 an, .int .u8 ad, .int .u32 af, .int .u64 ax, .string ab, .string ck, .int .u64 cp, .int .u32 cl, .int .u8 cn, .int .u8 cd, .int .u32 cf, .int .u64 cx, .string cb, .string zk, .int .u64 zp, .int .u32 zl, .int .u8 zn, .int .u8 zd, .int .u32 zf, .int .u64 zx, .string zb] 27) (at_alloc (o := .cells #[.string zk, .int .u64 zp, .int .u32 zl, .int .u8 zn, .int .u8 zd, .int .u32 zf, .int .u64 zx, .string zb] 27) (at_alloc (o := .cells #[.string ck, .int .u64 cp, .int .u32 cl, .int .u8 cn, .int .u8 cd, .int .u32 cf, .int .u64 cx, .string cb] 27) (at_new w #[.string ak, .int .u64 ap, .int .u32 al, .int .u8 an, .int .u8 ad, .int .u32 af, .int .u64 ax, .string ab] 27))))
  have HC := Lib.hid (at_alloc (o := .cells #[.string ak, .int .u64 ap, .int .u32 al, .int .u8 an, .int .u8 ad, .int .u32 af, .int .u64 ax, .string ab, .string ck, .int .u64 cp, .int .u32 cl, .int .u8 cn, .int .u8 cd, .int .u32 cf, .int .u64 cx, .string cb, .string zk, .int .u64 zp, .int .u32 zl, .int .u8 zn, .int .u8 zd, .int .u32 zf, .int .u64 zx, .string zb] 27) (at_alloc (o := .cells #[.string zk, .int .u64 zp, .int .u32 zl, .int .u8 zn, .int .u8 zd, .int .u32 zf, .int .u64 zx, .string zb] 27) (at_new (w.alloc (.cells #[.string ak, .int .u64 ap, .int .u32 al, .int .u8 an, .int .u8 ad, .int .u32 af, .int .u64 ax, .string ab] 27)) #[.string ck, .int .u64 cp, .int .u32 cl, .int .u8 cn, .int .u8 cd, .int .u32 cf, .int .u64 cx, .string cb] 27)))
  have HZ := Lib.hid (at_alloc (o := .cells #[.string ak, .int .u64 ap, .int .u32 al, .int .u8 an, .int .u8 ad, .int .u32 af, .int .u64 ax, .string ab, .string ck, .int .u64 cp, .int .u32 cl, .int .u8 cn, .int .u8 cd, .int .u32 cf, .int .u64 cx, .string cb, .string zk, .int .u64 zp, .int .u32 zl, .int .u8 zn, .int .u8 zd, .int .u32 zf, .int .u64 zx, .string zb] 27) (at_new ((w.alloc (.cells #[.string ak, .int .u64 ap, .int .u32 al, .int .u8 an, .int .u8 ad, .int .u32 af, .int .u64 ax, .string ab] 27)).alloc (.cells #[.string ck, .int .u64 cp, .int .u32 cl, .int .u8 cn, .int .u8 cd, .int .u32 cf, .int .u64 cx, .string cb] 27)) #[.string zk, .int .u64 zp, .int .u32 zl, .int .u8 zn, .int .u8 zd, .int .u32 zf, .int .u64 zx, .string zb] 27))
  have HB := Lib.hid (below_al (o := .cells #[.string ak, .int .u64 ap, .int .u32 al, .int .u8 an, .int .u8 ad, .int .u32 af, .int .u64 ax, .string ab, .string ck, .int .u64 cp, .int .u32 cl, .int .u8 cn, .int .u8 cd, .int .u32 cf, .int .u64 cx, .string cb, .string zk, .int .u64 zp, .int .u32 zl, .int .u8 zn, .int .u8 zd, .int .u32 zf, .int .u64 zx, .string zb] 27) (below_al (o := .cells #[.string zk, .int .u64 zp, .int .u32 zl, .int .u8 zn, .int .u8 zd, .int .u32 zf, .int .u64 zx, .string zb] 27) (below_al (o := .cells #[.string ck, .int .u64 cp, .int .u32 cl, .int .u8 cn, .int .u8 cd, .int .u32 cf, .int .u64 cx, .string cb] 27) (below_al (o := .cells #[.string ak, .int .u64 ap, .int .u32 al, .int .u8 an, .int .u8 ad, .int .u32 af, .int .u64 ax, .string ab] 27) (Below.refl w.heap.size w)))))
  simp only [World.size_alloc] at hA2 HC HZ
  refine (HG.out (w.heap.size + 1 + 1 + 1) _ _ hA2).mono ?_
  rintro e w1 ⟨rfl, b1⟩
  clear hA2
  replace HA := Lib.hid (at_below HA.out b1)
  replace HC := Lib.hid (at_below HC.out b1)
  replace HZ := Lib.hid (at_below HZ.out b1)
  replace HB := Lib.hid (below_on HB.out b1)
  clear b1
  go_wp2_with (fail)
  replace HA := Lib.hid (at_drew HA.out)
  replace HC := Lib.hid (at_drew HC.out)
  replace HZ := Lib.hid (at_drew HZ.out)
  replace HB := Lib.hid (Below.drew HB.out)
  refine wp_region_held_drew (S := (fun W => (W.cell? ⟨w.heap.size, 0, none⟩ = some (.string ak) ∧ W.cell? ⟨w.heap.size, 1, none⟩ = some (.int .u64 ap) ∧ W.cell? ⟨w.heap.size, 2, none⟩ = some (.int .u32 al) ∧ W.cell? ⟨w.heap.size, 3, none⟩ = some (.int .u8 an) ∧ W.cell? ⟨w.heap.size, 4, none⟩ = some (.int .u8 ad) ∧ W.cell? ⟨w.heap.size, 5, none⟩ = some (.int .u32 af) ∧ W.cell? ⟨w.heap.size, 6, none⟩ = some (.int .u64 ax) ∧ W.cell? ⟨w.heap.size, 7, none⟩ = some (.string ab)) ∧ (W.cell? ⟨(w.heap.size + 1), 0, none⟩ = some (.string ck) ∧ W.cell? ⟨(w.heap.size + 1), 1, none⟩ = some (.int .u64 cp) ∧ W.cell? ⟨(w.heap.size + 1), 2, none⟩ = some (.int .u32 cl) ∧ W.cell? ⟨(w.heap.size + 1), 3, none⟩ = some (.int .u8 cn) ∧ W.cell? ⟨(w.heap.size + 1), 4, none⟩ = some (.int .u8 cd) ∧ W.cell? ⟨(w.heap.size + 1), 5, none⟩ = some (.int .u32 cf) ∧ W.cell? ⟨(w.heap.size + 1), 6, none⟩ = some (.int .u64 cx) ∧ W.cell? ⟨(w.heap.size + 1), 7, none⟩ = some (.string cb)) ∧ (W.cell? ⟨(w.heap.size + 1 + 1), 0, none⟩ = some (.string zk) ∧ W.cell? ⟨(w.heap.size + 1 + 1), 1, none⟩ = some (.int .u64 zp) ∧ W.cell? ⟨(w.heap.size + 1 + 1), 2, none⟩ = some (.int .u32 zl) ∧ W.cell? ⟨(w.heap.size + 1 + 1), 3, none⟩ = some (.int .u8 zn) ∧ W.cell? ⟨(w.heap.size + 1 + 1), 4, none⟩ = some (.int .u8 zd) ∧ W.cell? ⟨(w.heap.size + 1 + 1), 5, none⟩ = some (.int .u32 zf) ∧ W.cell? ⟨(w.heap.size + 1 + 1), 6, none⟩ = some (.int .u64 zx) ∧ W.cell? ⟨(w.heap.size + 1 + 1), 7, none⟩ = some (.string zb)))) (by kernel_rfl) ?_ (fun hHeld => ?_)
  · (try dsimp only)
    exact ⟨⟨(at8 HA.out).1, (at8 HA.out).2.1, (at8 HA.out).2.2.1, (at8 HA.out).2.2.2.1, (at8 HA.out).2.2.2.2.1, (at8 HA.out).2.2.2.2.2.1, (at8 HA.out).2.2.2.2.2.2.1, (at8 HA.out).2.2.2.2.2.2.2.1⟩, ⟨(at8 HC.out).1, (at8 HC.out).2.1, (at8 HC.out).2.2.1, (at8 HC.out).2.2.2.1, (at8 HC.out).2.2.2.2.1, (at8 HC.out).2.2.2.2.2.1, (at8 HC.out).2.2.2.2.2.2.1, (at8 HC.out).2.2.2.2.2.2.2.1⟩, ⟨(at8 HZ.out).1, (at8 HZ.out).2.1, (at8 HZ.out).2.2.1, (at8 HZ.out).2.2.2.1, (at8 HZ.out).2.2.2.2.1, (at8 HZ.out).2.2.2.2.2.1, (at8 HZ.out).2.2.2.2.2.2.1, (at8 HZ.out).2.2.2.2.2.2.2.1⟩⟩
  refine Draw.take_w (i := 0) (v := ?vv76) rfl (by kernel_rfl) (by kernel_rfl) (by kernel_rfl) (fun _ _ _ h => h) (by rfl) ?hy76 (by assumption) ?rest76
  case hy76 => ((intro w hSw); (try dsimp only at hSw); go_simp; (try with_reducible rfl))
  (try simp only [Act.put, List.setIfInBounds_toArray, List.set_cons_zero, List.set_cons_succ])
  refine Draw.take_w (i := 1) (v := ?vv77) rfl (by kernel_rfl) (by kernel_rfl) (by kernel_rfl) (fun _ _ _ h => h) (by rfl) ?hy77 (by assumption) ?rest77
  case hy77 => ((intro w hSw); (try dsimp only at hSw); go_simp; (try with_reducible rfl))
  (try simp only [Act.put, List.setIfInBounds_toArray, List.set_cons_zero, List.set_cons_succ])
  refine Draw.take_w (i := 3) (v := ?vv78) rfl (by kernel_rfl) (by kernel_rfl) (by kernel_rfl) (fun _ _ _ h => h) (by rfl) ?hy78 (by assumption) ?rest78
  case hy78 => ((intro w hSw); (try dsimp only at hSw); go_simp; (try with_reducible rfl))
  (try simp only [Act.put, List.setIfInBounds_toArray, List.set_cons_zero, List.set_cons_succ])
  refine Draw.take_w (i := 4) (v := ?vv79) rfl (by kernel_rfl) (by kernel_rfl) (by kernel_rfl) (fun _ _ _ h => h) (by rfl) ?hy79 (by assumption) ?rest79
  case hy79 => ((intro w hSw); (try dsimp only at hSw); go_simp; (try with_reducible rfl))
  (try simp only [Act.put, List.setIfInBounds_toArray, List.set_cons_zero, List.set_cons_succ])
  refine Draw.take_w (i := 6) (v := ?vv80) rfl (by kernel_rfl) (by kernel_rfl) (by kernel_rfl) (fun _ _ _ h => h) (by rfl) ?hy80 (by assumption) ?rest80
  case hy80 => ((intro w hSw); (try dsimp only at hSw); go_simp; (try with_reducible rfl))
  (try simp only [Act.put, List.setIfInBounds_toArray, List.set_cons_zero, List.set_cons_succ])
  refine Draw.take_w (i := 7) (v := ?vv81) rfl (by kernel_rfl) (by kernel_rfl) (by kernel_rfl) (fun _ _ _ h => h) (by rfl) ?hy81 (by assumption) ?rest81
  case hy81 => ((intro w hSw); (try dsimp only at hSw); go_simp; (try with_reducible rfl))
  (try simp only [Act.put, List.setIfInBounds_toArray, List.set_cons_zero, List.set_cons_succ])
  refine Draw.call_d (i := 2) rfl (by kernel_rfl) (by rfl) (fun K hK => ?_)
  go_simp
  refine (H1.out _).mono ?_
  rintro e w2 ⟨rfl, b2⟩
  replace HA := Lib.hid (at_below HA.out b2)
  replace HC := Lib.hid (at_below HC.out b2)
  replace HZ := Lib.hid (at_below HZ.out b2)
  replace HB := Lib.hid (below_on HB.out b2)
  clear b2
  refine hK.out _ _ ?_ (fun hHeld => ?_)
  · (try dsimp only)
    exact ⟨⟨(at8 HA.out).1, (at8 HA.out).2.1, (at8 HA.out).2.2.1, (at8 HA.out).2.2.2.1, (at8 HA.out).2.2.2.2.1, (at8 HA.out).2.2.2.2.2.1, (at8 HA.out).2.2.2.2.2.2.1, (at8 HA.out).2.2.2.2.2.2.2.1⟩, ⟨(at8 HC.out).1, (at8 HC.out).2.1, (at8 HC.out).2.2.1, (at8 HC.out).2.2.2.1, (at8 HC.out).2.2.2.2.1, (at8 HC.out).2.2.2.2.2.1, (at8 HC.out).2.2.2.2.2.2.1, (at8 HC.out).2.2.2.2.2.2.2.1⟩, ⟨(at8 HZ.out).1, (at8 HZ.out).2.1, (at8 HZ.out).2.2.1, (at8 HZ.out).2.2.2.1, (at8 HZ.out).2.2.2.2.1, (at8 HZ.out).2.2.2.2.2.1, (at8 HZ.out).2.2.2.2.2.2.1, (at8 HZ.out).2.2.2.2.2.2.2.1⟩⟩
  clear hK K
  (try simp only [Act.put, List.setIfInBounds_toArray, List.set_cons_zero, List.set_cons_succ])
  refine Draw.call_d (i := 5) rfl (by kernel_rfl) (by rfl) (fun K hK => ?_)
  go_simp
  refine (H2.out _).mono ?_
  rintro e w3 ⟨rfl, b2⟩
  replace HA := Lib.hid (at_below HA.out b2)
  replace HC := Lib.hid (at_below HC.out b2)
  replace HZ := Lib.hid (at_below HZ.out b2)
  replace HB := Lib.hid (below_on HB.out b2)
  clear b2
  refine hK.out _ _ ?_ (fun hHeld => ?_)
  · (try dsimp only)
    exact ⟨⟨(at8 HA.out).1, (at8 HA.out).2.1, (at8 HA.out).2.2.1, (at8 HA.out).2.2.2.1, (at8 HA.out).2.2.2.2.1, (at8 HA.out).2.2.2.2.2.1, (at8 HA.out).2.2.2.2.2.2.1, (at8 HA.out).2.2.2.2.2.2.2.1⟩, ⟨(at8 HC.out).1, (at8 HC.out).2.1, (at8 HC.out).2.2.1, (at8 HC.out).2.2.2.1, (at8 HC.out).2.2.2.2.1, (at8 HC.out).2.2.2.2.2.1, (at8 HC.out).2.2.2.2.2.2.1, (at8 HC.out).2.2.2.2.2.2.2.1⟩, ⟨(at8 HZ.out).1, (at8 HZ.out).2.1, (at8 HZ.out).2.2.1, (at8 HZ.out).2.2.2.1, (at8 HZ.out).2.2.2.2.1, (at8 HZ.out).2.2.2.2.2.1, (at8 HZ.out).2.2.2.2.2.2.1, (at8 HZ.out).2.2.2.2.2.2.2.1⟩⟩
  clear hK K
  (try simp only [Act.put, List.setIfInBounds_toArray, List.set_cons_zero, List.set_cons_succ])
  refine Draw.call_d (i := 8) rfl (by kernel_rfl) (by rfl) (fun K hK => ?_)
  go_simp
  refine (H3.out _).mono ?_
  rintro e w4 ⟨rfl, b2⟩
  replace HA := Lib.hid (at_below HA.out b2)
  replace HC := Lib.hid (at_below HC.out b2)
  replace HZ := Lib.hid (at_below HZ.out b2)
  replace HB := Lib.hid (below_on HB.out b2)
  clear b2
  refine hK.out _ _ ?_ (fun hHeld => ?_)
  · (try dsimp only)
    exact ⟨⟨(at8 HA.out).1, (at8 HA.out).2.1, (at8 HA.out).2.2.1, (at8 HA.out).2.2.2.1, (at8 HA.out).2.2.2.2.1, (at8 HA.out).2.2.2.2.2.1, (at8 HA.out).2.2.2.2.2.2.1, (at8 HA.out).2.2.2.2.2.2.2.1⟩, ⟨(at8 HC.out).1, (at8 HC.out).2.1, (at8 HC.out).2.2.1, (at8 HC.out).2.2.2.1, (at8 HC.out).2.2.2.2.1, (at8 HC.out).2.2.2.2.2.1, (at8 HC.out).2.2.2.2.2.2.1, (at8 HC.out).2.2.2.2.2.2.2.1⟩, ⟨(at8 HZ.out).1, (at8 HZ.out).2.1, (at8 HZ.out).2.2.1, (at8 HZ.out).2.2.2.1, (at8 HZ.out).2.2.2.2.1, (at8 HZ.out).2.2.2.2.2.1, (at8 HZ.out).2.2.2.2.2.2.1, (at8 HZ.out).2.2.2.2.2.2.2.1⟩⟩
  clear hK K
  (try simp only [Act.put, List.setIfInBounds_toArray, List.set_cons_zero, List.set_cons_succ])
  refine Draw.take_w (i := 9) (v := ?vv82) rfl (by kernel_rfl) (by kernel_rfl) (by kernel_rfl) (fun _ _ _ h => h) (by rfl) ?hy82 (by assumption) ?rest82
  case hy82 => ((intro w hSw); (try dsimp only at hSw); go_simp; (try with_reducible rfl))
  (try simp only [Act.put, List.setIfInBounds_toArray, List.set_cons_zero, List.set_cons_succ])
  refine Draw.take_w (i := 10) (v := ?vv83) rfl (by kernel_rfl) (by kernel_rfl) (by kernel_rfl) (fun _ _ _ h => h) (by rfl) ?hy83 (by assumption) ?rest83
  case hy83 => ((intro w hSw); (try dsimp only at hSw); go_simp; (try with_reducible rfl))
  (try simp only [Act.put, List.setIfInBounds_toArray, List.set_cons_zero, List.set_cons_succ])
  refine Draw.take_w (i := 11) (v := ?vv84) rfl (by kernel_rfl) (by kernel_rfl) (by kernel_rfl) (fun _ _ _ h => h) (by rfl) ?hy84 (by assumption) ?rest84
  case hy84 => ((intro w hSw); (try dsimp only at hSw); go_simp; (try with_reducible rfl))
  (try simp only [Act.put, List.setIfInBounds_toArray, List.set_cons_zero, List.set_cons_succ])
  refine wpAnyH_done (by kernel_rfl) ?_ _
  obtain ⟨x0, x1, x2, x3, x4, x5, x6, x7, -⟩ := at8 HA.out
  obtain ⟨y0, y1, y2, y3, y4, y5, y6, y7, -⟩ := at8 HC.out
  have q1 := At.lt HA.out
  have q2 := At.lt HC.out
  go_upto_region 6 with (fail)
  have HD := Lib.hid (at_new w4 #[.string ak, .int .u64 cp, .int .u32 cl, .int .u8 cn, .int .u8 cd, .int .u32 cf, .int .u64 cx, .string cb] 27)
  replace HA := Lib.hid (at_alloc (o := .cells #[.string ak, .int .u64 cp, .int .u32 cl, .int .u8 cn, .int .u8 cd, .int .u32 cf, .int .u64 cx, .string cb] 27) HA.out)
  replace HC := Lib.hid (at_alloc (o := .cells #[.string ak, .int .u64 cp, .int .u32 cl, .int .u8 cn, .int .u8 cd, .int .u32 cf, .int .u64 cx, .string cb] 27) HC.out)
  replace HB := Lib.hid (below_al (o := .cells #[.string ak, .int .u64 cp, .int .u32 cl, .int .u8 cn, .int .u8 cd, .int .u32 cf, .int .u64 cx, .string cb] 27) HB.out)
  clear HZ x0 x1 x2 x3 x4 x5 x6 x7 y0 y1 y2 y3 y4 y5 y6 y7 q1 q2
  generalize w4.alloc (.cells #[.string ak, .int .u64 cp, .int .u32 cl, .int .u8 cn, .int .u8 cd, .int .u32 cf, .int .u64 cx, .string cb] 27) = w5 at *
  generalize w4.heap.size = v at *
  go_wp2_with (fail)
  refine (H0.out _).mono ?_
  rintro e w6 ⟨rfl, b2⟩
  replace HA := Lib.hid (at_below HA.out b2)
  replace HC := Lib.hid (at_below HC.out b2)
  replace HD := Lib.hid (at_below HD.out b2)
  replace HB := Lib.hid (below_on HB.out b2)
  clear b2
  obtain ⟨x0, x1, x2, x3, x4, x5, x6, x7, -⟩ := at8 HA.out
  obtain ⟨y0, y1, y2, y3, y4, y5, y6, y7, -⟩ := at8 HC.out
  go_wp2_with (fail)
  clear x0 x1 x2 x3 x4 x5 x6 x7 y0 y1 y2 y3 y4 y5 y6 y7
  refine (H4.out _).mono ?_
  rintro e w7 ⟨rfl, b2⟩
  replace HA := Lib.hid (at_below HA.out b2)
  replace HC := Lib.hid (at_below HC.out b2)
  replace HD := Lib.hid (at_below HD.out b2)
  replace HB := Lib.hid (below_on HB.out b2)
  clear b2
  obtain ⟨x0, x1, x2, x3, x4, x5, x6, x7, -⟩ := at8 HA.out
  obtain ⟨y0, y1, y2, y3, y4, y5, y6, y7, -⟩ := at8 HD.out
  go_wp2_with (fail)
  go_ret
  exact ⟨rfl, HB.out⟩
theorem RecOrder_walk (ak : ByteArray) (ap al an ad af ax : Int) (ab : ByteArray) (ck : ByteArray) (cp cl cn cd cf cx : Int) (cb : ByteArray) (zk : ByteArray) (zp zl zn zd zf zx : Int) (zb : ByteArray) (w : World) : Calls Try.prog 3 #[.agg #[.string ak, .int .u64 ap, .int .u32 al, .int .u8 an, .int .u8 ad, .int .u32 af, .int .u64 ax, .string ab], .agg #[.string ck, .int .u64 cp, .int .u32 cl, .int .u8 cn, .int .u8 cd, .int .u32 cf, .int .u64 cx, .string cb], .agg #[.string zk, .int .u64 zp, .int .u32 zl, .int .u8 zn, .int .u8 zd, .int .u32 zf, .int .u64 zx, .string zb]] w fun e w' => e = .returned (.bool true) ∧ Below w.heap.size w w' := by
  cases hg : (gr ak ab || gr ck cb || gr zk zb)
  · have x3 : cmpR ap al an ad af ax ab cp cl cn cd cf cx cb = -1 ∨ cmpR ap al an ad af ax ab cp cl cn cd cf cx cb = 0 ∨ cmpR ap al an ad af ax ab cp cl cn cd cf cx cb = 1 := cmp2_three ⟨ap, al, an, ad, af, ax, ab⟩ ⟨cp, cl, cn, cd, cf, cx, cb⟩
    have y3 : cmpR cp cl cn cd cf cx cb zp zl zn zd zf zx zb = -1 ∨ cmpR cp cl cn cd cf cx cb zp zl zn zd zf zx zb = 0 ∨ cmpR cp cl cn cd cf cx cb zp zl zn zd zf zx zb = 1 := cmp2_three ⟨cp, cl, cn, cd, cf, cx, cb⟩ ⟨zp, zl, zn, zd, zf, zx, zb⟩
    have tr : cmpR ap al an ad af ax ab cp cl cn cd cf cx cb = -1 → cmpR cp cl cn cd cf cx cb zp zl zn zd zf zx zb = -1 → cmpR ap al an ad af ax ab zp zl zn zd zf zx zb = -1 := fun h g => cmp2_trans (a := ⟨ap, al, an, ad, af, ax, ab⟩) (b := ⟨cp, cl, cn, cd, cf, cx, cb⟩) (c := ⟨zp, zl, zn, zd, zf, zx, zb⟩) h g
    have e1 : cmpR ap al an ad af ax ab cp cl cn cd cf cx cb = 0 → cmpR ap al an ad af ax ab zp zl zn zd zf zx zb = cmpR cp cl cn cd cf cx cb zp zl zn zd zf zx zb := fun h => by
      have e : (⟨ap, al, an, ad, af, ax, ab⟩ : R) = ⟨cp, cl, cn, cd, cf, cx, cb⟩ := cmp2_zero.1 h
      show cmp2 ⟨ap, al, an, ad, af, ax, ab⟩ ⟨zp, zl, zn, zd, zf, zx, zb⟩ = cmp2 ⟨cp, cl, cn, cd, cf, cx, cb⟩ ⟨zp, zl, zn, zd, zf, zx, zb⟩
      rw [e]
    have e2 : cmpR cp cl cn cd cf cx cb zp zl zn zd zf zx zb = 0 → cmpR ap al an ad af ax ab zp zl zn zd zf zx zb = cmpR ap al an ad af ax ab cp cl cn cd cf cx cb := fun h => by
      have e : (⟨cp, cl, cn, cd, cf, cx, cb⟩ : R) = ⟨zp, zl, zn, zd, zf, zx, zb⟩ := cmp2_zero.1 h
      show cmp2 ⟨ap, al, an, ad, af, ax, ab⟩ ⟨zp, zl, zn, zd, zf, zx, zb⟩ = cmp2 ⟨ap, al, an, ad, af, ax, ab⟩ ⟨cp, cl, cn, cd, cf, cx, cb⟩
      rw [e]
    rcases x3 with hx | hx | hx
    · rcases y3 with hy | hy | hy
      · exact order_w ak ap al an ad af ax ab ck cp cl cn cd cf cx cb zk zp zl zn zd zf zx zb w hg ⟨by omega, by omega, by rw [tr hx hy]; omega⟩
      · exact order_w ak ap al an ad af ax ab ck cp cl cn cd cf cx cb zk zp zl zn zd zf zx zb w hg ⟨by omega, by omega, by rw [e2 hy]; omega⟩
      · exact order_u ak ap al an ad af ax ab ck cp cl cn cd cf cx cb zk zp zl zn zd zf zx zb w hg ⟨by omega, by omega⟩
    · rcases y3 with hy | hy | hy
      · exact order_x ak ap al an ad af ax ab ck cp cl cn cd cf cx cb zk zp zl zn zd zf zx zb w hg ⟨hx, by omega, by rw [e1 hx]; omega⟩
      · exact order_y ak ap al an ad af ax ab ck cp cl cn cd cf cx cb zk zp zl zn zd zf zx zb w hg ⟨hx, hy, by rw [e1 hx]; exact hy⟩
      · exact order_v ak ap al an ad af ax ab ck cp cl cn cd cf cx cb zk zp zl zn zd zf zx zb w hg ⟨hx, by omega⟩
    · exact order_t ak ap al an ad af ax ab ck cp cl cn cd cf cx cb zk zp zl zn zd zf zx zb w hg (by omega)
  · exact order_great ak ap al an ad af ax ab ck cp cl cn cd cf cx cb zk zp zl zn zd zf zx zb w hg
end Go.Proofs.Ytlohnhjfdmldnaa.Rec

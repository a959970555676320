/- The reference's comparison and join, the program's join: the walks (own text; printed by wip/tools/gen_recless.py, a program of this session). -/
import Derived.Test.YtlohnhjfdmldnaaRecLess
import Derived.Handy
import Derived.Test.YtlohnhjfdmldnaaSets
namespace Go.Proofs.Ytlohnhjfdmldnaa.Rec
open Go.RowKit Go.Proofs.Ytlohnhjfdmldnaa.Mem Go.Proofs.Ytlohnhjfdmldnaa.Hlc Go.Proofs.Ytlohnhjfdmldnaa
set_option linter.unusedVariables false
set_option linter.unusedSimpArgs false
theorem refCmp_0 (ak : ByteArray) (ap al an ad af ax : Int) (ab : ByteArray) (ck : ByteArray) (cp cl cn cd cf cx : Int) (cb : ByteArray) (w : World) (ha : ab.size ≤ 1000000) (hc : cb.size ≤ 1000000) (h1 : decide (cmpR ap al an ad af ax ab cp cl cn cd cf cx cb = -1) = true) (h2 : decide (cmpR cp cl cn cd cf cx cb ap al an ad af ax ab = -1) = false) :
    Calls Try.prog 14 #[.agg #[.string ak, .int .u64 ap, .int .u32 al, .int .u8 an, .int .u8 ad, .int .u32 af, .int .u64 ax, .string ab], .agg #[.string ck, .int .u64 cp, .int .u32 cl, .int .u8 cn, .int .u8 cd, .int .u32 cf, .int .u64 cx, .string cb]] w fun e w' => e = .returned (.int .i64 (-1)) ∧ Below w.heap.size w w' := by
  have k1 := fun w => rless_any ak ap al an ad af ax ab ck cp cl cn cd cf cx cb w ha hc
  have k2 := fun w => rless_any ck cp cl cn cd cf cx cb ak ap al an ad af ax ab w hc ha
  rw [h1] at k1
  rw [h2] at k2
  have H1 := Lib.hid k1
  have H2 := Lib.hid k2
  clear k1 k2 h1 h2
  go_enter Try.func14, Try.ntmps14
  go_wp2_with (fail)
  refine (H1.out _).mono ?_
  rintro e w1 ⟨rfl, b1⟩
  go_wp2_with (fail)
  go_ret
  exact ⟨rfl, below_on (below_two _ _ _) b1⟩
theorem refCmp_1 (ak : ByteArray) (ap al an ad af ax : Int) (ab : ByteArray) (ck : ByteArray) (cp cl cn cd cf cx : Int) (cb : ByteArray) (w : World) (ha : ab.size ≤ 1000000) (hc : cb.size ≤ 1000000) (h1 : decide (cmpR ap al an ad af ax ab cp cl cn cd cf cx cb = -1) = false) (h2 : decide (cmpR cp cl cn cd cf cx cb ap al an ad af ax ab = -1) = true) :
    Calls Try.prog 14 #[.agg #[.string ak, .int .u64 ap, .int .u32 al, .int .u8 an, .int .u8 ad, .int .u32 af, .int .u64 ax, .string ab], .agg #[.string ck, .int .u64 cp, .int .u32 cl, .int .u8 cn, .int .u8 cd, .int .u32 cf, .int .u64 cx, .string cb]] w fun e w' => e = .returned (.int .i64 1) ∧ Below w.heap.size w w' := by
  have k1 := fun w => rless_any ak ap al an ad af ax ab ck cp cl cn cd cf cx cb w ha hc
  have k2 := fun w => rless_any ck cp cl cn cd cf cx cb ak ap al an ad af ax ab w hc ha
  rw [h1] at k1
  rw [h2] at k2
  have H1 := Lib.hid k1
  have H2 := Lib.hid k2
  clear k1 k2 h1 h2
  go_enter Try.func14, Try.ntmps14
  go_wp2_with (fail)
  refine (H1.out _).mono ?_
  rintro e w1 ⟨rfl, b1⟩
  have HA := Lib.hid (at_below (at_alloc (o := .cells #[.string ck, .int .u64 cp, .int .u32 cl, .int .u8 cn, .int .u8 cd, .int .u32 cf, .int .u64 cx, .string cb] 27) (at_new w #[.string ak, .int .u64 ap, .int .u32 al, .int .u8 an, .int .u8 ad, .int .u32 af, .int .u64 ax, .string ab] 27)) b1)
  have HC := Lib.hid (at_below (at_new (w.alloc (.cells #[.string ak, .int .u64 ap, .int .u32 al, .int .u8 an, .int .u8 ad, .int .u32 af, .int .u64 ax, .string ab] 27)) #[.string ck, .int .u64 cp, .int .u32 cl, .int .u8 cn, .int .u8 cd, .int .u32 cf, .int .u64 cx, .string cb] 27) b1)
  rw [World.size_alloc] at HC
  obtain ⟨x0, x1, x2, x3, x4, x5, x6, x7, -⟩ := at8 HA.out
  obtain ⟨y0, y1, y2, y3, y4, y5, y6, y7, -⟩ := at8 HC.out
  go_wp2_with (fail)
  refine (H2.out _).mono ?_
  rintro e w2 ⟨rfl, b2⟩
  go_wp2_with (fail)
  go_ret
  exact ⟨rfl, below_on (below_on (below_two _ _ _) b1) b2⟩
theorem refCmp_2 (ak : ByteArray) (ap al an ad af ax : Int) (ab : ByteArray) (ck : ByteArray) (cp cl cn cd cf cx : Int) (cb : ByteArray) (w : World) (ha : ab.size ≤ 1000000) (hc : cb.size ≤ 1000000) (h1 : decide (cmpR ap al an ad af ax ab cp cl cn cd cf cx cb = -1) = false) (h2 : decide (cmpR cp cl cn cd cf cx cb ap al an ad af ax ab = -1) = false) :
    Calls Try.prog 14 #[.agg #[.string ak, .int .u64 ap, .int .u32 al, .int .u8 an, .int .u8 ad, .int .u32 af, .int .u64 ax, .string ab], .agg #[.string ck, .int .u64 cp, .int .u32 cl, .int .u8 cn, .int .u8 cd, .int .u32 cf, .int .u64 cx, .string cb]] w fun e w' => e = .returned (.int .i64 0) ∧ Below w.heap.size w w' := by
  have k1 := fun w => rless_any ak ap al an ad af ax ab ck cp cl cn cd cf cx cb w ha hc
  have k2 := fun w => rless_any ck cp cl cn cd cf cx cb ak ap al an ad af ax ab w hc ha
  rw [h1] at k1
  rw [h2] at k2
  have H1 := Lib.hid k1
  have H2 := Lib.hid k2
  clear k1 k2 h1 h2
  go_enter Try.func14, Try.ntmps14
  go_wp2_with (fail)
  refine (H1.out _).mono ?_
  rintro e w1 ⟨rfl, b1⟩
  have HA := Lib.hid (at_below (at_alloc (o := .cells #[.string ck, .int .u64 cp, .int .u32 cl, .int .u8 cn, .int .u8 cd, .int .u32 cf, .int .u64 cx, .string cb] 27) (at_new w #[.string ak, .int .u64 ap, .int .u32 al, .int .u8 an, .int .u8 ad, .int .u32 af, .int .u64 ax, .string ab] 27)) b1)
  have HC := Lib.hid (at_below (at_new (w.alloc (.cells #[.string ak, .int .u64 ap, .int .u32 al, .int .u8 an, .int .u8 ad, .int .u32 af, .int .u64 ax, .string ab] 27)) #[.string ck, .int .u64 cp, .int .u32 cl, .int .u8 cn, .int .u8 cd, .int .u32 cf, .int .u64 cx, .string cb] 27) b1)
  rw [World.size_alloc] at HC
  obtain ⟨x0, x1, x2, x3, x4, x5, x6, x7, -⟩ := at8 HA.out
  obtain ⟨y0, y1, y2, y3, y4, y5, y6, y7, -⟩ := at8 HC.out
  go_wp2_with (fail)
  refine (H2.out _).mono ?_
  rintro e w2 ⟨rfl, b2⟩
  go_wp2_with (fail)
  go_ret
  exact ⟨rfl, below_on (below_on (below_two _ _ _) b1) b2⟩
theorem refCmp_any (ak : ByteArray) (ap al an ad af ax : Int) (ab : ByteArray) (ck : ByteArray) (cp cl cn cd cf cx : Int) (cb : ByteArray) (w : World) (ha : ab.size ≤ 1000000) (hc : cb.size ≤ 1000000) :
    Calls Try.prog 14 #[.agg #[.string ak, .int .u64 ap, .int .u32 al, .int .u8 an, .int .u8 ad, .int .u32 af, .int .u64 ax, .string ab], .agg #[.string ck, .int .u64 cp, .int .u32 cl, .int .u8 cn, .int .u8 cd, .int .u32 cf, .int .u64 cx, .string cb]] w fun e w' => e = .returned (.int .i64 (cmpR ap al an ad af ax ab cp cl cn cd cf cx cb)) ∧ Below w.heap.size w w' := by
  have hn : cmpR cp cl cn cd cf cx cb ap al an ad af ax ab = - cmpR ap al an ad af ax ab cp cl cn cd cf cx cb := cmp2_neg ⟨ap, al, an, ad, af, ax, ab⟩ ⟨cp, cl, cn, cd, cf, cx, cb⟩
  have h3 : cmpR ap al an ad af ax ab cp cl cn cd cf cx cb = -1 ∨ cmpR ap al an ad af ax ab cp cl cn cd cf cx cb = 0 ∨ cmpR ap al an ad af ax ab cp cl cn cd cf cx cb = 1 := cmp2_three ⟨ap, al, an, ad, af, ax, ab⟩ ⟨cp, cl, cn, cd, cf, cx, cb⟩
  rcases h3 with h | h | h
  · have g1 := refCmp_0 ak ap al an ad af ax ab ck cp cl cn cd cf cx cb w ha hc
    rw [hn, h] at g1
    rw [h]; exact g1 rfl rfl
  · have g1 := refCmp_2 ak ap al an ad af ax ab ck cp cl cn cd cf cx cb w ha hc
    rw [hn, h] at g1
    rw [h]; exact g1 rfl rfl
  · have g1 := refCmp_1 ak ap al an ad af ax ab ck cp cl cn cd cf cx cb w ha hc
    rw [hn, h] at g1
    rw [h]; exact g1 rfl rfl
set_option maxHeartbeats 800000 in
theorem refJoin_0 (ak : ByteArray) (ap al an ad af ax : Int) (ab : ByteArray) (ck : ByteArray) (cp cl cn cd cf cx : Int) (cb : ByteArray) (w : World) (ha : ab.size ≤ 1000000) (hc : cb.size ≤ 1000000) (h1 : decide (cmpR ap al an ad af ax ab cp cl cn cd cf cx cb = -1) = true) :
    Calls Try.prog 16 #[.agg #[.string ak, .int .u64 ap, .int .u32 al, .int .u8 an, .int .u8 ad, .int .u32 af, .int .u64 ax, .string ab], .agg #[.string ck, .int .u64 cp, .int .u32 cl, .int .u8 cn, .int .u8 cd, .int .u32 cf, .int .u64 cx, .string cb]] w fun e w' => e = .returned (.agg #[.string ck, .int .u64 cp, .int .u32 cl, .int .u8 cn, .int .u8 cd, .int .u32 cf, .int .u64 cx, .string cb]) ∧ Below w.heap.size w w' := by
  have k1 := fun w => rless_any ak ap al an ad af ax ab ck cp cl cn cd cf cx cb w ha hc
  rw [h1] at k1
  have H1 := Lib.hid k1
  clear k1 h1
  go_enter Try.func16, Try.ntmps16
  go_wp2_with (fail)
  refine (H1.out _).mono ?_
  rintro e w1 ⟨rfl, b1⟩
  have HA := Lib.hid (at_below (at_alloc (o := .cells #[.string ⟨#[]⟩, .int .u64 0, .int .u32 0, .int .u8 0, .int .u8 0, .int .u32 0, .int .u64 0, .string ⟨#[]⟩] 27) (at_alloc (o := .cells #[.string ck, .int .u64 cp, .int .u32 cl, .int .u8 cn, .int .u8 cd, .int .u32 cf, .int .u64 cx, .string cb] 27) (at_new w #[.string ak, .int .u64 ap, .int .u32 al, .int .u8 an, .int .u8 ad, .int .u32 af, .int .u64 ax, .string ab] 27))) b1)
  have HC := Lib.hid (at_below (at_alloc (o := .cells #[.string ⟨#[]⟩, .int .u64 0, .int .u32 0, .int .u8 0, .int .u8 0, .int .u32 0, .int .u64 0, .string ⟨#[]⟩] 27) (at_new (w.alloc (.cells #[.string ak, .int .u64 ap, .int .u32 al, .int .u8 an, .int .u8 ad, .int .u32 af, .int .u64 ax, .string ab] 27)) #[.string ck, .int .u64 cp, .int .u32 cl, .int .u8 cn, .int .u8 cd, .int .u32 cf, .int .u64 cx, .string cb] 27)) b1)
  have HO := Lib.hid (at_below (at_new ((w.alloc (.cells #[.string ak, .int .u64 ap, .int .u32 al, .int .u8 an, .int .u8 ad, .int .u32 af, .int .u64 ax, .string ab] 27)).alloc (.cells #[.string ck, .int .u64 cp, .int .u32 cl, .int .u8 cn, .int .u8 cd, .int .u32 cf, .int .u64 cx, .string cb] 27)) #[.string ⟨#[]⟩, .int .u64 0, .int .u32 0, .int .u8 0, .int .u8 0, .int .u32 0, .int .u64 0, .string ⟨#[]⟩] 27) b1)
  have HB := Lib.hid (below_on (below_al (o := .cells #[.string ⟨#[]⟩, .int .u64 0, .int .u32 0, .int .u8 0, .int .u8 0, .int .u32 0, .int .u64 0, .string ⟨#[]⟩] 27) (below_al (o := .cells #[.string ck, .int .u64 cp, .int .u32 cl, .int .u8 cn, .int .u8 cd, .int .u32 cf, .int .u64 cx, .string cb] 27) (below_al (o := .cells #[.string ak, .int .u64 ap, .int .u32 al, .int .u8 an, .int .u8 ad, .int .u32 af, .int .u64 ax, .string ab] 27) (Below.refl w.heap.size w)))) b1)
  clear b1
  simp only [World.size_alloc] at HC HO
  obtain ⟨x0, x1, x2, x3, x4, x5, x6, x7, -⟩ := at8 HC.out
  obtain ⟨z0, z1, z2, z3, z4, z5, z6, z7, y0, y1, y2, y3, y4, y5, y6, y7⟩ := at8 HO.out
  have hlt : w.heap.size < w.heap.size + 1 + 1 := by omega
  go_wp2_with (fail)
  have HS := Lib.hid (at_set8 (v0 := .string ck) (v1 := .int .u64 cp) (v2 := .int .u32 cl) (v3 := .int .u8 cn) (v4 := .int .u8 cd) (v5 := .int .u32 cf) (v6 := .int .u64 cx) (v7 := .string cb) HO.out)
  have HT := Lib.hid (below_set8 (v0 := .string ck) (v1 := .int .u64 cp) (v2 := .int .u32 cl) (v3 := .int .u8 cn) (v4 := .int .u8 cd) (v5 := .int .u32 cf) (v6 := .int .u64 cx) (v7 := .string cb) HB.out (Nat.le_of_lt hlt))
  clear HO HA HC HB x0 x1 x2 x3 x4 x5 x6 x7 z0 z1 z2 z3 z4 z5 z6 z7 y0 y1 y2 y3 y4 y5 y6 y7
  generalize ((((((((w1.setCell ⟨w.heap.size + 1 + 1, 0, none⟩ (.string ck)).setCell ⟨w.heap.size + 1 + 1, 1, none⟩ (.int .u64 cp)).setCell ⟨w.heap.size + 1 + 1, 2, none⟩ (.int .u32 cl)).setCell ⟨w.heap.size + 1 + 1, 3, none⟩ (.int .u8 cn)).setCell ⟨w.heap.size + 1 + 1, 4, none⟩ (.int .u8 cd)).setCell ⟨w.heap.size + 1 + 1, 5, none⟩ (.int .u32 cf)).setCell ⟨w.heap.size + 1 + 1, 6, none⟩ (.int .u64 cx)).setCell ⟨w.heap.size + 1 + 1, 7, none⟩ (.string cb)) = w2 at *
  obtain ⟨z0, z1, z2, z3, z4, z5, z6, z7, -⟩ := at8 HS.out
  refine bodyPost_ret (by simp [results, Try.results16, go_sem, z0, z1, z2, z3, z4, z5, z6, z7]; try rfl) rfl ?_
  exact ⟨rfl, HT.out⟩
set_option maxHeartbeats 800000 in
theorem refJoin_1 (ak : ByteArray) (ap al an ad af ax : Int) (ab : ByteArray) (ck : ByteArray) (cp cl cn cd cf cx : Int) (cb : ByteArray) (w : World) (ha : ab.size ≤ 1000000) (hc : cb.size ≤ 1000000) (h1 : decide (cmpR ap al an ad af ax ab cp cl cn cd cf cx cb = -1) = false) :
    Calls Try.prog 16 #[.agg #[.string ak, .int .u64 ap, .int .u32 al, .int .u8 an, .int .u8 ad, .int .u32 af, .int .u64 ax, .string ab], .agg #[.string ck, .int .u64 cp, .int .u32 cl, .int .u8 cn, .int .u8 cd, .int .u32 cf, .int .u64 cx, .string cb]] w fun e w' => e = .returned (.agg #[.string ak, .int .u64 ap, .int .u32 al, .int .u8 an, .int .u8 ad, .int .u32 af, .int .u64 ax, .string ab]) ∧ Below w.heap.size w w' := by
  have k1 := fun w => rless_any ak ap al an ad af ax ab ck cp cl cn cd cf cx cb w ha hc
  rw [h1] at k1
  have H1 := Lib.hid k1
  clear k1 h1
  go_enter Try.func16, Try.ntmps16
  go_wp2_with (fail)
  refine (H1.out _).mono ?_
  rintro e w1 ⟨rfl, b1⟩
  have HA := Lib.hid (at_below (at_alloc (o := .cells #[.string ⟨#[]⟩, .int .u64 0, .int .u32 0, .int .u8 0, .int .u8 0, .int .u32 0, .int .u64 0, .string ⟨#[]⟩] 27) (at_alloc (o := .cells #[.string ck, .int .u64 cp, .int .u32 cl, .int .u8 cn, .int .u8 cd, .int .u32 cf, .int .u64 cx, .string cb] 27) (at_new w #[.string ak, .int .u64 ap, .int .u32 al, .int .u8 an, .int .u8 ad, .int .u32 af, .int .u64 ax, .string ab] 27))) b1)
  have HC := Lib.hid (at_below (at_alloc (o := .cells #[.string ⟨#[]⟩, .int .u64 0, .int .u32 0, .int .u8 0, .int .u8 0, .int .u32 0, .int .u64 0, .string ⟨#[]⟩] 27) (at_new (w.alloc (.cells #[.string ak, .int .u64 ap, .int .u32 al, .int .u8 an, .int .u8 ad, .int .u32 af, .int .u64 ax, .string ab] 27)) #[.string ck, .int .u64 cp, .int .u32 cl, .int .u8 cn, .int .u8 cd, .int .u32 cf, .int .u64 cx, .string cb] 27)) b1)
  have HO := Lib.hid (at_below (at_new ((w.alloc (.cells #[.string ak, .int .u64 ap, .int .u32 al, .int .u8 an, .int .u8 ad, .int .u32 af, .int .u64 ax, .string ab] 27)).alloc (.cells #[.string ck, .int .u64 cp, .int .u32 cl, .int .u8 cn, .int .u8 cd, .int .u32 cf, .int .u64 cx, .string cb] 27)) #[.string ⟨#[]⟩, .int .u64 0, .int .u32 0, .int .u8 0, .int .u8 0, .int .u32 0, .int .u64 0, .string ⟨#[]⟩] 27) b1)
  have HB := Lib.hid (below_on (below_al (o := .cells #[.string ⟨#[]⟩, .int .u64 0, .int .u32 0, .int .u8 0, .int .u8 0, .int .u32 0, .int .u64 0, .string ⟨#[]⟩] 27) (below_al (o := .cells #[.string ck, .int .u64 cp, .int .u32 cl, .int .u8 cn, .int .u8 cd, .int .u32 cf, .int .u64 cx, .string cb] 27) (below_al (o := .cells #[.string ak, .int .u64 ap, .int .u32 al, .int .u8 an, .int .u8 ad, .int .u32 af, .int .u64 ax, .string ab] 27) (Below.refl w.heap.size w)))) b1)
  clear b1
  simp only [World.size_alloc] at HC HO
  obtain ⟨x0, x1, x2, x3, x4, x5, x6, x7, -⟩ := at8 HA.out
  obtain ⟨z0, z1, z2, z3, z4, z5, z6, z7, y0, y1, y2, y3, y4, y5, y6, y7⟩ := at8 HO.out
  have hlt : w.heap.size < w.heap.size + 1 + 1 := by omega
  go_wp2_with (fail)
  have HS := Lib.hid (at_set8 (v0 := .string ak) (v1 := .int .u64 ap) (v2 := .int .u32 al) (v3 := .int .u8 an) (v4 := .int .u8 ad) (v5 := .int .u32 af) (v6 := .int .u64 ax) (v7 := .string ab) HO.out)
  have HT := Lib.hid (below_set8 (v0 := .string ak) (v1 := .int .u64 ap) (v2 := .int .u32 al) (v3 := .int .u8 an) (v4 := .int .u8 ad) (v5 := .int .u32 af) (v6 := .int .u64 ax) (v7 := .string ab) HB.out (Nat.le_of_lt hlt))
  clear HO HA HC HB x0 x1 x2 x3 x4 x5 x6 x7 z0 z1 z2 z3 z4 z5 z6 z7 y0 y1 y2 y3 y4 y5 y6 y7
  generalize ((((((((w1.setCell ⟨w.heap.size + 1 + 1, 0, none⟩ (.string ak)).setCell ⟨w.heap.size + 1 + 1, 1, none⟩ (.int .u64 ap)).setCell ⟨w.heap.size + 1 + 1, 2, none⟩ (.int .u32 al)).setCell ⟨w.heap.size + 1 + 1, 3, none⟩ (.int .u8 an)).setCell ⟨w.heap.size + 1 + 1, 4, none⟩ (.int .u8 ad)).setCell ⟨w.heap.size + 1 + 1, 5, none⟩ (.int .u32 af)).setCell ⟨w.heap.size + 1 + 1, 6, none⟩ (.int .u64 ax)).setCell ⟨w.heap.size + 1 + 1, 7, none⟩ (.string ab)) = w2 at *
  obtain ⟨z0, z1, z2, z3, z4, z5, z6, z7, -⟩ := at8 HS.out
  refine bodyPost_ret (by simp [results, Try.results16, go_sem, z0, z1, z2, z3, z4, z5, z6, z7]; try rfl) rfl ?_
  exact ⟨rfl, HT.out⟩
set_option maxHeartbeats 800000 in
theorem join_0 (ak : ByteArray) (ap al an ad af ax : Int) (ab : ByteArray) (ck : ByteArray) (cp cl cn cd cf cx : Int) (cb : ByteArray) (w : World) (ha : ab.size ≤ 1000000) (hc : cb.size ≤ 1000000) (h1 : decide (cmpR ap al an ad af ax ab cp cl cn cd cf cx cb = -1) = true) :
    Calls Try.prog 15 #[.agg #[.string ak, .int .u64 ap, .int .u32 al, .int .u8 an, .int .u8 ad, .int .u32 af, .int .u64 ax, .string ab], .agg #[.string ck, .int .u64 cp, .int .u32 cl, .int .u8 cn, .int .u8 cd, .int .u32 cf, .int .u64 cx, .string cb]] w fun e w' => e = .returned (.agg #[.string ck, .int .u64 cp, .int .u32 cl, .int .u8 cn, .int .u8 cd, .int .u32 cf, .int .u64 cx, .string cb]) ∧ Below w.heap.size w w' := by
  have h3 : decide (cmpR ap al an ad af ax ab cp cl cn cd cf cx cb < 0) = true := by
    have h3 : cmpR ap al an ad af ax ab cp cl cn cd cf cx cb = -1 ∨ cmpR ap al an ad af ax ab cp cl cn cd cf cx cb = 0 ∨ cmpR ap al an ad af ax ab cp cl cn cd cf cx cb = 1 := cmp2_three ⟨ap, al, an, ad, af, ax, ab⟩ ⟨cp, cl, cn, cd, cf, cx, cb⟩
    rcases h3 with h | h | h <;> rw [h] at h1 ⊢ <;> first | rfl | exact h1
  have k1 := fun w => rcompare_any ak ap al an ad af ax ab ck cp cl cn cd cf cx cb w
  generalize cmpR ap al an ad af ax ab cp cl cn cd cf cx cb = cc at k1 h3
  have H1 := Lib.hid k1
  clear k1 h1
  go_enter Try.func15, Try.ntmps15
  go_wp2_with (fail)
  refine (H1.out _).mono ?_
  rintro e w1 ⟨rfl, b1⟩
  have HA := Lib.hid (at_below (at_alloc (o := .cells #[.string ⟨#[]⟩, .int .u64 0, .int .u32 0, .int .u8 0, .int .u8 0, .int .u32 0, .int .u64 0, .string ⟨#[]⟩] 27) (at_alloc (o := .cells #[.string ck, .int .u64 cp, .int .u32 cl, .int .u8 cn, .int .u8 cd, .int .u32 cf, .int .u64 cx, .string cb] 27) (at_new w #[.string ak, .int .u64 ap, .int .u32 al, .int .u8 an, .int .u8 ad, .int .u32 af, .int .u64 ax, .string ab] 27))) b1)
  have HC := Lib.hid (at_below (at_alloc (o := .cells #[.string ⟨#[]⟩, .int .u64 0, .int .u32 0, .int .u8 0, .int .u8 0, .int .u32 0, .int .u64 0, .string ⟨#[]⟩] 27) (at_new (w.alloc (.cells #[.string ak, .int .u64 ap, .int .u32 al, .int .u8 an, .int .u8 ad, .int .u32 af, .int .u64 ax, .string ab] 27)) #[.string ck, .int .u64 cp, .int .u32 cl, .int .u8 cn, .int .u8 cd, .int .u32 cf, .int .u64 cx, .string cb] 27)) b1)
  have HO := Lib.hid (at_below (at_new ((w.alloc (.cells #[.string ak, .int .u64 ap, .int .u32 al, .int .u8 an, .int .u8 ad, .int .u32 af, .int .u64 ax, .string ab] 27)).alloc (.cells #[.string ck, .int .u64 cp, .int .u32 cl, .int .u8 cn, .int .u8 cd, .int .u32 cf, .int .u64 cx, .string cb] 27)) #[.string ⟨#[]⟩, .int .u64 0, .int .u32 0, .int .u8 0, .int .u8 0, .int .u32 0, .int .u64 0, .string ⟨#[]⟩] 27) b1)
  have HB := Lib.hid (below_on (below_al (o := .cells #[.string ⟨#[]⟩, .int .u64 0, .int .u32 0, .int .u8 0, .int .u8 0, .int .u32 0, .int .u64 0, .string ⟨#[]⟩] 27) (below_al (o := .cells #[.string ck, .int .u64 cp, .int .u32 cl, .int .u8 cn, .int .u8 cd, .int .u32 cf, .int .u64 cx, .string cb] 27) (below_al (o := .cells #[.string ak, .int .u64 ap, .int .u32 al, .int .u8 an, .int .u8 ad, .int .u32 af, .int .u64 ax, .string ab] 27) (Below.refl w.heap.size w)))) b1)
  clear b1
  simp only [World.size_alloc] at HC HO
  obtain ⟨x0, x1, x2, x3, x4, x5, x6, x7, -⟩ := at8 HC.out
  obtain ⟨z0, z1, z2, z3, z4, z5, z6, z7, y0, y1, y2, y3, y4, y5, y6, y7⟩ := at8 HO.out
  have hlt : w.heap.size < w.heap.size + 1 + 1 := by omega
  go_wp2_with (fail)
  have HS := Lib.hid (at_set8 (v0 := .string ck) (v1 := .int .u64 cp) (v2 := .int .u32 cl) (v3 := .int .u8 cn) (v4 := .int .u8 cd) (v5 := .int .u32 cf) (v6 := .int .u64 cx) (v7 := .string cb) HO.out)
  have HT := Lib.hid (below_set8 (v0 := .string ck) (v1 := .int .u64 cp) (v2 := .int .u32 cl) (v3 := .int .u8 cn) (v4 := .int .u8 cd) (v5 := .int .u32 cf) (v6 := .int .u64 cx) (v7 := .string cb) HB.out (Nat.le_of_lt hlt))
  clear HO HA HC HB x0 x1 x2 x3 x4 x5 x6 x7 z0 z1 z2 z3 z4 z5 z6 z7 y0 y1 y2 y3 y4 y5 y6 y7
  generalize ((((((((w1.setCell ⟨w.heap.size + 1 + 1, 0, none⟩ (.string ck)).setCell ⟨w.heap.size + 1 + 1, 1, none⟩ (.int .u64 cp)).setCell ⟨w.heap.size + 1 + 1, 2, none⟩ (.int .u32 cl)).setCell ⟨w.heap.size + 1 + 1, 3, none⟩ (.int .u8 cn)).setCell ⟨w.heap.size + 1 + 1, 4, none⟩ (.int .u8 cd)).setCell ⟨w.heap.size + 1 + 1, 5, none⟩ (.int .u32 cf)).setCell ⟨w.heap.size + 1 + 1, 6, none⟩ (.int .u64 cx)).setCell ⟨w.heap.size + 1 + 1, 7, none⟩ (.string cb)) = w2 at *
  obtain ⟨z0, z1, z2, z3, z4, z5, z6, z7, -⟩ := at8 HS.out
  refine bodyPost_ret (by simp [results, Try.results15, go_sem, z0, z1, z2, z3, z4, z5, z6, z7]; try rfl) rfl ?_
  exact ⟨rfl, HT.out⟩
set_option maxHeartbeats 800000 in
theorem join_1 (ak : ByteArray) (ap al an ad af ax : Int) (ab : ByteArray) (ck : ByteArray) (cp cl cn cd cf cx : Int) (cb : ByteArray) (w : World) (ha : ab.size ≤ 1000000) (hc : cb.size ≤ 1000000) (h1 : decide (cmpR ap al an ad af ax ab cp cl cn cd cf cx cb = -1) = false) :
    Calls Try.prog 15 #[.agg #[.string ak, .int .u64 ap, .int .u32 al, .int .u8 an, .int .u8 ad, .int .u32 af, .int .u64 ax, .string ab], .agg #[.string ck, .int .u64 cp, .int .u32 cl, .int .u8 cn, .int .u8 cd, .int .u32 cf, .int .u64 cx, .string cb]] w fun e w' => e = .returned (.agg #[.string ak, .int .u64 ap, .int .u32 al, .int .u8 an, .int .u8 ad, .int .u32 af, .int .u64 ax, .string ab]) ∧ Below w.heap.size w w' := by
  have h3 : decide (cmpR ap al an ad af ax ab cp cl cn cd cf cx cb < 0) = false := by
    have h3 : cmpR ap al an ad af ax ab cp cl cn cd cf cx cb = -1 ∨ cmpR ap al an ad af ax ab cp cl cn cd cf cx cb = 0 ∨ cmpR ap al an ad af ax ab cp cl cn cd cf cx cb = 1 := cmp2_three ⟨ap, al, an, ad, af, ax, ab⟩ ⟨cp, cl, cn, cd, cf, cx, cb⟩
    rcases h3 with h | h | h <;> rw [h] at h1 ⊢ <;> first | rfl | exact h1
  have k1 := fun w => rcompare_any ak ap al an ad af ax ab ck cp cl cn cd cf cx cb w
  generalize cmpR ap al an ad af ax ab cp cl cn cd cf cx cb = cc at k1 h3
  have H1 := Lib.hid k1
  clear k1 h1
  go_enter Try.func15, Try.ntmps15
  go_wp2_with (fail)
  refine (H1.out _).mono ?_
  rintro e w1 ⟨rfl, b1⟩
  have HA := Lib.hid (at_below (at_alloc (o := .cells #[.string ⟨#[]⟩, .int .u64 0, .int .u32 0, .int .u8 0, .int .u8 0, .int .u32 0, .int .u64 0, .string ⟨#[]⟩] 27) (at_alloc (o := .cells #[.string ck, .int .u64 cp, .int .u32 cl, .int .u8 cn, .int .u8 cd, .int .u32 cf, .int .u64 cx, .string cb] 27) (at_new w #[.string ak, .int .u64 ap, .int .u32 al, .int .u8 an, .int .u8 ad, .int .u32 af, .int .u64 ax, .string ab] 27))) b1)
  have HC := Lib.hid (at_below (at_alloc (o := .cells #[.string ⟨#[]⟩, .int .u64 0, .int .u32 0, .int .u8 0, .int .u8 0, .int .u32 0, .int .u64 0, .string ⟨#[]⟩] 27) (at_new (w.alloc (.cells #[.string ak, .int .u64 ap, .int .u32 al, .int .u8 an, .int .u8 ad, .int .u32 af, .int .u64 ax, .string ab] 27)) #[.string ck, .int .u64 cp, .int .u32 cl, .int .u8 cn, .int .u8 cd, .int .u32 cf, .int .u64 cx, .string cb] 27)) b1)
  have HO := Lib.hid (at_below (at_new ((w.alloc (.cells #[.string ak, .int .u64 ap, .int .u32 al, .int .u8 an, .int .u8 ad, .int .u32 af, .int .u64 ax, .string ab] 27)).alloc (.cells #[.string ck, .int .u64 cp, .int .u32 cl, .int .u8 cn, .int .u8 cd, .int .u32 cf, .int .u64 cx, .string cb] 27)) #[.string ⟨#[]⟩, .int .u64 0, .int .u32 0, .int .u8 0, .int .u8 0, .int .u32 0, .int .u64 0, .string ⟨#[]⟩] 27) b1)
  have HB := Lib.hid (below_on (below_al (o := .cells #[.string ⟨#[]⟩, .int .u64 0, .int .u32 0, .int .u8 0, .int .u8 0, .int .u32 0, .int .u64 0, .string ⟨#[]⟩] 27) (below_al (o := .cells #[.string ck, .int .u64 cp, .int .u32 cl, .int .u8 cn, .int .u8 cd, .int .u32 cf, .int .u64 cx, .string cb] 27) (below_al (o := .cells #[.string ak, .int .u64 ap, .int .u32 al, .int .u8 an, .int .u8 ad, .int .u32 af, .int .u64 ax, .string ab] 27) (Below.refl w.heap.size w)))) b1)
  clear b1
  simp only [World.size_alloc] at HC HO
  obtain ⟨x0, x1, x2, x3, x4, x5, x6, x7, -⟩ := at8 HA.out
  obtain ⟨z0, z1, z2, z3, z4, z5, z6, z7, y0, y1, y2, y3, y4, y5, y6, y7⟩ := at8 HO.out
  have hlt : w.heap.size < w.heap.size + 1 + 1 := by omega
  go_wp2_with (fail)
  have HS := Lib.hid (at_set8 (v0 := .string ak) (v1 := .int .u64 ap) (v2 := .int .u32 al) (v3 := .int .u8 an) (v4 := .int .u8 ad) (v5 := .int .u32 af) (v6 := .int .u64 ax) (v7 := .string ab) HO.out)
  have HT := Lib.hid (below_set8 (v0 := .string ak) (v1 := .int .u64 ap) (v2 := .int .u32 al) (v3 := .int .u8 an) (v4 := .int .u8 ad) (v5 := .int .u32 af) (v6 := .int .u64 ax) (v7 := .string ab) HB.out (Nat.le_of_lt hlt))
  clear HO HA HC HB x0 x1 x2 x3 x4 x5 x6 x7 z0 z1 z2 z3 z4 z5 z6 z7 y0 y1 y2 y3 y4 y5 y6 y7
  generalize ((((((((w1.setCell ⟨w.heap.size + 1 + 1, 0, none⟩ (.string ak)).setCell ⟨w.heap.size + 1 + 1, 1, none⟩ (.int .u64 ap)).setCell ⟨w.heap.size + 1 + 1, 2, none⟩ (.int .u32 al)).setCell ⟨w.heap.size + 1 + 1, 3, none⟩ (.int .u8 an)).setCell ⟨w.heap.size + 1 + 1, 4, none⟩ (.int .u8 ad)).setCell ⟨w.heap.size + 1 + 1, 5, none⟩ (.int .u32 af)).setCell ⟨w.heap.size + 1 + 1, 6, none⟩ (.int .u64 ax)).setCell ⟨w.heap.size + 1 + 1, 7, none⟩ (.string ab)) = w2 at *
  obtain ⟨z0, z1, z2, z3, z4, z5, z6, z7, -⟩ := at8 HS.out
  refine bodyPost_ret (by simp [results, Try.results15, go_sem, z0, z1, z2, z3, z4, z5, z6, z7]; try rfl) rfl ?_
  exact ⟨rfl, HT.out⟩
theorem refJoin_any (ak : ByteArray) (ap al an ad af ax : Int) (ab : ByteArray) (ck : ByteArray) (cp cl cn cd cf cx : Int) (cb : ByteArray) (w : World) (ha : ab.size ≤ 1000000) (hc : cb.size ≤ 1000000) :
    Calls Try.prog 16 #[.agg #[.string ak, .int .u64 ap, .int .u32 al, .int .u8 an, .int .u8 ad, .int .u32 af, .int .u64 ax, .string ab], .agg #[.string ck, .int .u64 cp, .int .u32 cl, .int .u8 cn, .int .u8 cd, .int .u32 cf, .int .u64 cx, .string cb]] w fun e w' => e = .returned (if cmpR ap al an ad af ax ab cp cl cn cd cf cx cb = -1 then .agg #[.string ck, .int .u64 cp, .int .u32 cl, .int .u8 cn, .int .u8 cd, .int .u32 cf, .int .u64 cx, .string cb] else .agg #[.string ak, .int .u64 ap, .int .u32 al, .int .u8 an, .int .u8 ad, .int .u32 af, .int .u64 ax, .string ab]) ∧ Below w.heap.size w w' := by
  by_cases h : cmpR ap al an ad af ax ab cp cl cn cd cf cx cb = -1
  · rw [if_pos h]; exact refJoin_0 ak ap al an ad af ax ab ck cp cl cn cd cf cx cb w ha hc (decide_eq_true h)
  · rw [if_neg h]; exact refJoin_1 ak ap al an ad af ax ab ck cp cl cn cd cf cx cb w ha hc (decide_eq_false h)
theorem join_any (ak : ByteArray) (ap al an ad af ax : Int) (ab : ByteArray) (ck : ByteArray) (cp cl cn cd cf cx : Int) (cb : ByteArray) (w : World) (ha : ab.size ≤ 1000000) (hc : cb.size ≤ 1000000) :
    Calls Try.prog 15 #[.agg #[.string ak, .int .u64 ap, .int .u32 al, .int .u8 an, .int .u8 ad, .int .u32 af, .int .u64 ax, .string ab], .agg #[.string ck, .int .u64 cp, .int .u32 cl, .int .u8 cn, .int .u8 cd, .int .u32 cf, .int .u64 cx, .string cb]] w fun e w' => e = .returned (if cmpR ap al an ad af ax ab cp cl cn cd cf cx cb = -1 then .agg #[.string ck, .int .u64 cp, .int .u32 cl, .int .u8 cn, .int .u8 cd, .int .u32 cf, .int .u64 cx, .string cb] else .agg #[.string ak, .int .u64 ap, .int .u32 al, .int .u8 an, .int .u8 ad, .int .u32 af, .int .u64 ax, .string ab]) ∧ Below w.heap.size w w' := by
  by_cases h : cmpR ap al an ad af ax ab cp cl cn cd cf cx cb = -1
  · rw [if_pos h]; exact join_0 ak ap al an ad af ax ab ck cp cl cn cd cf cx cb w ha hc (decide_eq_true h)
  · rw [if_neg h]; exact join_1 ak ap al an ad af ax ab ck cp cl cn cd cf cx cb w ha hc (decide_eq_false h)
end Go.Proofs.Ytlohnhjfdmldnaa.Rec

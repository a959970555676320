/- What the row needs, laid together out of MsgBack, Opener, MsgOpen (own texts and texts printed for this seat; wip/tools/group.py). -/
import Derived.Test.YtdjompbhlkgmbaaGB3
import Derived.Test.YtdjompbhlkgmbaaGB10
import Derived.Test.YtdjompbhlkgmbaaGB11
import Derived.Test.YtdjompbhlkgmbaaGB12
import Derived.Test.YtdjompbhlkgmbaaGB13
import Derived.Test.YtdjompbhlkgmbaaGB16
import Derived.Deep.Slices
import Derived.Deep.Fields
import Derived.ChangeSame
import Derived.OpenShut
import Derived.ProofKit
import Derived.SizedLaws
section
/- MsgBack: the law's call answers true (own text; written by wip/tools/gen_msgback.py). -/
namespace Go.Proofs.Ytdjompbhlkgmbaa.Msg
open Go.RowKit Go.Proofs.Ytdjompbhlkgmbaa.Mem Go.Proofs.YtdjompbhlkgmbaaW.PrintWords Go.Proofs.YtdjompbhlkgmbaaW.PrintLast Go.Proofs.YtdjompbhlkgmbaaW.PrintMore Go.Proofs.Ytdjompbhlkgmbaa.PMsg
set_option linter.unusedVariables false
set_option linter.unusedSimpArgs false
theorem MCod.far {w w' : World} {b c tb x : Nat} (h : MCod w b c tb) (k : Chg (fun y => y = x) w w') (h0 : b ≠ x) (h1 : c ≠ x) (h2 : tb ≠ x) : MCod w' b c tb := ⟨at_chg h.a k h0, Frame.cod_far h.c k h1 h2, h.n⟩
theorem great_b (m : M) (A7 : Option Addr) (g7 : Nat) (A8 : Option Addr) (g8 : Nat) (A9 : Option Addr) (g9 : Nat) (A10 : Option Addr) (g10 : Nat) (A11 : Option Addr) (g11 : Nat) (W : World) (HM : HasM m A7 g7 A8 g8 A9 g9 A10 g10 A11 g11 W) (ho : OkM m) : Calls Try.prog 7 #[.agg #[.int .u8 m.kind, .int .u8 m.fr, .int .u8 m.dst, .int .u32 m.id, .int .u8 m.tg, .int .u8 m.rg, .bool m.flag, .slice A7 m.news.length g7, .slice A8 m.keys.length g8, .slice A9 m.recs.length g9, .slice A10 m.seen.length g10, .slice A11 m.digs.length g11]] W fun e w' => e = .returned (.bool (greatM m)) ∧ Below W.heap.size W w' :=
  tattlerref22_Great.calls (m.keys.length + m.recs.length + m.seen.length + 10) m.kind m.fr m.dst m.id m.tg m.rg m.flag A7 g7 m.news A8 g8 m.keys A9 g9 m.recs A10 g10 m.seen A11 g11 m.digs (greatM m) W HM.r7 HM.l7 HM.r8 HM.l8 HM.r9 HM.l9 HM.r10 HM.l10 HM.r11 HM.l11 (great_is m ho _ (Nat.le_refl _))
theorem packE_no (m : M) (h : mayM m = false) : packE m = 1 ∧ packS m = ⟨#[]⟩ := by
  unfold packE packS
  rw [h, if_neg Bool.false_ne_true, if_neg Bool.false_ne_true]
  exact ⟨rfl, rfl⟩
theorem packE_yes (m : M) (hm : mayM m = true) (hs : SmM m) : packE m = 0 := by
  obtain ⟨hh, _⟩ := (mayM_iff m).1 hm
  unfold headP at hh
  have hz := body_len2 hs
  have hbs := body_size m
  unfold packE
  rw [if_pos hm]
  unfold Frame.encE
  have hmay : Frame.mayF m.kind.toNat m.fr.toNat m.dst.toNat = true := by
    unfold Frame.mayF
    exact decide_eq_true (by omega)
  rw [if_neg (by omega), if_neg (by rw [hmay]; simp)]
set_option maxRecDepth 100000 in
set_option maxHeartbeats 8000000 in
theorem back_great (m : M) (A7 : Option Addr) (g7 : Nat) (A8 : Option Addr) (g8 : Nat) (A9 : Option Addr) (g9 : Nat) (A10 : Option Addr) (g10 : Nat) (A11 : Option Addr) (g11 : Nat) (w : World) (ho : OkM m) (hm : HasM m A7 g7 A8 g8 A9 g9 A10 g10 A11 g11 w) (hg : greatM m = true) :
    Calls Try.prog 6 #[.agg #[.int .u8 m.kind, .int .u8 m.fr, .int .u8 m.dst, .int .u32 m.id, .int .u8 m.tg, .int .u8 m.rg, .bool m.flag, .slice A7 m.news.length g7, .slice A8 m.keys.length g8, .slice A9 m.recs.length g9, .slice A10 m.seen.length g10, .slice A11 m.digs.length g11]] w fun e w' => e = .returned (.bool true) ∧ Below w.heap.size w w' := by
  have hgc := fun (W : World) (h : Below w.heap.size w W) => great_b m A7 g7 A8 g8 A9 g9 A10 g10 A11 g11 W (hm.below h) ho
  rw [hg] at hgc
  have GC := Lib.hid hgc
  have FX := Lib.hid fixed_any
  clear hgc
  clear hg ho hm
  go_enter Try.func6, Try.ntmps6
  go_upto_region 1 with (fail)
  have AZ := Lib.hid (at_new w #[.int .u8 m.kind, .int .u8 m.fr, .int .u8 m.dst, .int .u32 m.id, .int .u8 m.tg, .int .u8 m.rg, .bool m.flag, .slice A7 m.news.length g7, .slice A8 m.keys.length g8, .slice A9 m.recs.length g9, .slice A10 m.seen.length g10, .slice A11 m.digs.length g11] 29)
  have HB := Lib.hid (below_alloc (Below.refl w.heap.size w) (.cells #[.int .u8 m.kind, .int .u8 m.fr, .int .u8 m.dst, .int .u32 m.id, .int .u8 m.tg, .int .u8 m.rg, .bool m.flag, .slice A7 m.news.length g7, .slice A8 m.keys.length g8, .slice A9 m.recs.length g9, .slice A10 m.seen.length g10, .slice A11 m.digs.length g11] 29))
  generalize w.alloc (.cells #[.int .u8 m.kind, .int .u8 m.fr, .int .u8 m.dst, .int .u32 m.id, .int .u8 m.tg, .int .u8 m.rg, .bool m.flag, .slice A7 m.news.length g7, .slice A8 m.keys.length g8, .slice A9 m.recs.length g9, .slice A10 m.seen.length g10, .slice A11 m.digs.length g11] 29) = w1 at *
  have ez0 : w1.cell? ⟨w.heap.size, 0, none⟩ = some (.int .u8 m.kind) := AZ.out.cell 0
  have ez1 : w1.cell? ⟨w.heap.size, 1, none⟩ = some (.int .u8 m.fr) := AZ.out.cell 1
  have ez2 : w1.cell? ⟨w.heap.size, 2, none⟩ = some (.int .u8 m.dst) := AZ.out.cell 2
  have ez3 : w1.cell? ⟨w.heap.size, 3, none⟩ = some (.int .u32 m.id) := AZ.out.cell 3
  have ez4 : w1.cell? ⟨w.heap.size, 4, none⟩ = some (.int .u8 m.tg) := AZ.out.cell 4
  have ez5 : w1.cell? ⟨w.heap.size, 5, none⟩ = some (.int .u8 m.rg) := AZ.out.cell 5
  have ez6 : w1.cell? ⟨w.heap.size, 6, none⟩ = some (.bool m.flag) := AZ.out.cell 6
  have ez7 : w1.cell? ⟨w.heap.size, 7, none⟩ = some (.slice A7 m.news.length g7) := AZ.out.cell 7
  have ez8 : w1.cell? ⟨w.heap.size, 8, none⟩ = some (.slice A8 m.keys.length g8) := AZ.out.cell 8
  have ez9 : w1.cell? ⟨w.heap.size, 9, none⟩ = some (.slice A9 m.recs.length g9) := AZ.out.cell 9
  have ez10 : w1.cell? ⟨w.heap.size, 10, none⟩ = some (.slice A10 m.seen.length g10) := AZ.out.cell 10
  have ez11 : w1.cell? ⟨w.heap.size, 11, none⟩ = some (.slice A11 m.digs.length g11) := AZ.out.cell 11
  go_wp2_with (first
    | (go_at_call 7; (with_reducible refine (GC.out _ HB.out).mono ?_); rintro e w2 ⟨rfl, hb2⟩; have HB2 := Lib.hid (below_step HB.out hb2); have AZ2 := Lib.hid (at_below AZ.out hb2); clear hb2 HB AZ)
    | (go_at_call 8; (with_reducible refine (FX.out _).mono ?_); rintro e w3 ⟨rfl, hb3⟩; have HB3 := Lib.hid (below_step HB2.out hb3); clear hb3 HB2))
  go_ret
  exact ⟨rfl, HB3.out⟩
set_option maxRecDepth 100000 in
set_option maxHeartbeats 8000000 in
theorem back_no (m : M) (A7 : Option Addr) (g7 : Nat) (A8 : Option Addr) (g8 : Nat) (A9 : Option Addr) (g9 : Nat) (A10 : Option Addr) (g10 : Nat) (A11 : Option Addr) (g11 : Nat) (w : World) (ho : OkM m) (hm : HasM m A7 g7 A8 g8 A9 g9 A10 g10 A11 g11 w) (hg : greatM m = false) (hy : mayM m = false) :
    Calls Try.prog 6 #[.agg #[.int .u8 m.kind, .int .u8 m.fr, .int .u8 m.dst, .int .u32 m.id, .int .u8 m.tg, .int .u8 m.rg, .bool m.flag, .slice A7 m.news.length g7, .slice A8 m.keys.length g8, .slice A9 m.recs.length g9, .slice A10 m.seen.length g10, .slice A11 m.digs.length g11]] w fun e w' => e = .returned (.bool true) ∧ Below w.heap.size w w' := by
  have hgc := fun (W : World) (h : Below w.heap.size w W) => great_b m A7 g7 A8 g8 A9 g9 A10 g10 A11 g11 W (hm.below h) ho
  rw [hg] at hgc
  have GC := Lib.hid hgc
  have FX := Lib.hid fixed_any
  clear hgc
  have hs := sm_of m ho hg
  have hpk := fun (b c tb : Nat) (W : World) (h : Below w.heap.size w W) (hc : MCod W b c tb) => pack_any m A7 g7 A8 g8 A9 g9 A10 g10 A11 g11 b c tb W (hm.below h) hs hc
  rw [(packE_no m hy).1, (packE_no m hy).2] at hpk
  have PK := Lib.hid hpk
  have hrm := fun (W : World) (h : Below w.heap.size w W) => refMay_c m A7 g7 A8 g8 A9 g9 A10 g10 A11 g11 W (hm.below h) hs
  rw [hy] at hrm
  have RM := Lib.hid hrm
  clear hs hpk hrm hy
  clear hg ho hm
  go_enter Try.func6, Try.ntmps6
  go_upto_region 1 with (fail)
  have AZ := Lib.hid (at_new w #[.int .u8 m.kind, .int .u8 m.fr, .int .u8 m.dst, .int .u32 m.id, .int .u8 m.tg, .int .u8 m.rg, .bool m.flag, .slice A7 m.news.length g7, .slice A8 m.keys.length g8, .slice A9 m.recs.length g9, .slice A10 m.seen.length g10, .slice A11 m.digs.length g11] 29)
  have HB := Lib.hid (below_alloc (Below.refl w.heap.size w) (.cells #[.int .u8 m.kind, .int .u8 m.fr, .int .u8 m.dst, .int .u32 m.id, .int .u8 m.tg, .int .u8 m.rg, .bool m.flag, .slice A7 m.news.length g7, .slice A8 m.keys.length g8, .slice A9 m.recs.length g9, .slice A10 m.seen.length g10, .slice A11 m.digs.length g11] 29))
  generalize w.alloc (.cells #[.int .u8 m.kind, .int .u8 m.fr, .int .u8 m.dst, .int .u32 m.id, .int .u8 m.tg, .int .u8 m.rg, .bool m.flag, .slice A7 m.news.length g7, .slice A8 m.keys.length g8, .slice A9 m.recs.length g9, .slice A10 m.seen.length g10, .slice A11 m.digs.length g11] 29) = w1 at *
  have ez0 : w1.cell? ⟨w.heap.size, 0, none⟩ = some (.int .u8 m.kind) := AZ.out.cell 0
  have ez1 : w1.cell? ⟨w.heap.size, 1, none⟩ = some (.int .u8 m.fr) := AZ.out.cell 1
  have ez2 : w1.cell? ⟨w.heap.size, 2, none⟩ = some (.int .u8 m.dst) := AZ.out.cell 2
  have ez3 : w1.cell? ⟨w.heap.size, 3, none⟩ = some (.int .u32 m.id) := AZ.out.cell 3
  have ez4 : w1.cell? ⟨w.heap.size, 4, none⟩ = some (.int .u8 m.tg) := AZ.out.cell 4
  have ez5 : w1.cell? ⟨w.heap.size, 5, none⟩ = some (.int .u8 m.rg) := AZ.out.cell 5
  have ez6 : w1.cell? ⟨w.heap.size, 6, none⟩ = some (.bool m.flag) := AZ.out.cell 6
  have ez7 : w1.cell? ⟨w.heap.size, 7, none⟩ = some (.slice A7 m.news.length g7) := AZ.out.cell 7
  have ez8 : w1.cell? ⟨w.heap.size, 8, none⟩ = some (.slice A8 m.keys.length g8) := AZ.out.cell 8
  have ez9 : w1.cell? ⟨w.heap.size, 9, none⟩ = some (.slice A9 m.recs.length g9) := AZ.out.cell 9
  have ez10 : w1.cell? ⟨w.heap.size, 10, none⟩ = some (.slice A10 m.seen.length g10) := AZ.out.cell 10
  have ez11 : w1.cell? ⟨w.heap.size, 11, none⟩ = some (.slice A11 m.digs.length g11) := AZ.out.cell 11
  go_upto_region 3 with (go_at_call 7; (with_reducible refine (GC.out _ HB.out).mono ?_); rintro e w2 ⟨rfl, hb2⟩; have HB2 := Lib.hid (below_step HB.out hb2); have AZ2 := Lib.hid (at_below AZ.out hb2); clear hb2 HB AZ)
  go_wp2_with (fail)
  refine (mnew _).mono ?_
  rintro e w3 ⟨b, c, tb, rfl, hc, g1, g2, g3, g4, g5, g6, hb⟩
  have AZ3 := Lib.hid (at_below AZ2.out hb)
  have HB3 := Lib.hid (below_step HB2.out hb)
  have HT1 := Lib.hid (show w.heap.size < b ∧ w.heap.size < c ∧ w.heap.size < tb from ⟨Nat.lt_of_lt_of_le AZ2.out.lt g1, Nat.lt_of_lt_of_le AZ2.out.lt g2, Nat.lt_of_lt_of_le AZ2.out.lt g3⟩)
  have HL1 := Lib.hid (show b < w3.heap.size ∧ c < w3.heap.size ∧ tb < w3.heap.size from ⟨g4, g5, g6⟩)
  have HC3 := Lib.hid hc
  clear hc g1 g2 g3 g4 g5 g6 hb AZ2 HB2
  go_wp2_with (fail)
  refine (mnew _).mono ?_
  rintro e w4 ⟨b', c', tb', rfl, hc, g1, g2, g3, g4, g5, g6, hb⟩
  have AZ4 := Lib.hid (at_below AZ3.out hb)
  have HB4 := Lib.hid (below_step HB3.out hb)
  have HC4 := Lib.hid (HC3.out.below hb)
  have HD4 := Lib.hid hc
  have HT2 := Lib.hid (show (b < b' ∧ c < b' ∧ tb < b') ∧ (b < c' ∧ c < c' ∧ tb < c') ∧ (b < tb' ∧ c < tb' ∧ tb < tb') from by have := HL1.out; omega)
  clear hc g1 g2 g3 g4 g5 g6 hb AZ3 HB3 HC3 HL1
  have ey0 : w4.cell? ⟨w.heap.size, 0, none⟩ = some (.int .u8 m.kind) := AZ4.out.cell 0
  have ey1 : w4.cell? ⟨w.heap.size, 1, none⟩ = some (.int .u8 m.fr) := AZ4.out.cell 1
  have ey2 : w4.cell? ⟨w.heap.size, 2, none⟩ = some (.int .u8 m.dst) := AZ4.out.cell 2
  have ey3 : w4.cell? ⟨w.heap.size, 3, none⟩ = some (.int .u32 m.id) := AZ4.out.cell 3
  have ey4 : w4.cell? ⟨w.heap.size, 4, none⟩ = some (.int .u8 m.tg) := AZ4.out.cell 4
  have ey5 : w4.cell? ⟨w.heap.size, 5, none⟩ = some (.int .u8 m.rg) := AZ4.out.cell 5
  have ey6 : w4.cell? ⟨w.heap.size, 6, none⟩ = some (.bool m.flag) := AZ4.out.cell 6
  have ey7 : w4.cell? ⟨w.heap.size, 7, none⟩ = some (.slice A7 m.news.length g7) := AZ4.out.cell 7
  have ey8 : w4.cell? ⟨w.heap.size, 8, none⟩ = some (.slice A8 m.keys.length g8) := AZ4.out.cell 8
  have ey9 : w4.cell? ⟨w.heap.size, 9, none⟩ = some (.slice A9 m.recs.length g9) := AZ4.out.cell 9
  have ey10 : w4.cell? ⟨w.heap.size, 10, none⟩ = some (.slice A10 m.seen.length g10) := AZ4.out.cell 10
  have ey11 : w4.cell? ⟨w.heap.size, 11, none⟩ = some (.slice A11 m.digs.length g11) := AZ4.out.cell 11
  go_wp2_with (first
    | (go_at_call 10; (with_reducible refine (PK.out b c tb _ HB4.out HC4.out).mono ?_); rintro e w5 ⟨rfl, ht, hk⟩; have AZ5 := Lib.hid (at_chg AZ4.out hk (by have := HT1.out; omega)); have HB5 := Lib.hid (below_chg HB4.out hk (fun i e => by have := HT1.out; omega)); have HC5 := Lib.hid (HC4.out.chg ht hk); have HD5 := Lib.hid (HD4.out.far hk (by have := HT2.out; omega) (by have := HT2.out; omega) (by have := HT2.out; omega)); clear ht hk AZ4 HB4 HC4 HD4)
    | (go_at_call 8; (with_reducible refine (FX.out _).mono ?_); rintro e w6 ⟨rfl, hb⟩; have HB6 := Lib.hid (below_step HB5.out hb); have AZ6 := Lib.hid (at_below AZ5.out hb); clear hb HB5 AZ5; have eu0 : w6.cell? ⟨w.heap.size, 0, none⟩ = some (.int .u8 m.kind) := AZ6.out.cell 0; have eu1 : w6.cell? ⟨w.heap.size, 1, none⟩ = some (.int .u8 m.fr) := AZ6.out.cell 1; have eu2 : w6.cell? ⟨w.heap.size, 2, none⟩ = some (.int .u8 m.dst) := AZ6.out.cell 2; have eu3 : w6.cell? ⟨w.heap.size, 3, none⟩ = some (.int .u32 m.id) := AZ6.out.cell 3; have eu4 : w6.cell? ⟨w.heap.size, 4, none⟩ = some (.int .u8 m.tg) := AZ6.out.cell 4; have eu5 : w6.cell? ⟨w.heap.size, 5, none⟩ = some (.int .u8 m.rg) := AZ6.out.cell 5; have eu6 : w6.cell? ⟨w.heap.size, 6, none⟩ = some (.bool m.flag) := AZ6.out.cell 6; have eu7 : w6.cell? ⟨w.heap.size, 7, none⟩ = some (.slice A7 m.news.length g7) := AZ6.out.cell 7; have eu8 : w6.cell? ⟨w.heap.size, 8, none⟩ = some (.slice A8 m.keys.length g8) := AZ6.out.cell 8; have eu9 : w6.cell? ⟨w.heap.size, 9, none⟩ = some (.slice A9 m.recs.length g9) := AZ6.out.cell 9; have eu10 : w6.cell? ⟨w.heap.size, 10, none⟩ = some (.slice A10 m.seen.length g10) := AZ6.out.cell 10; have eu11 : w6.cell? ⟨w.heap.size, 11, none⟩ = some (.slice A11 m.digs.length g11) := AZ6.out.cell 11)
    | (go_at_call 16; (with_reducible refine (RM.out _ HB6.out).mono ?_); rintro e w7 ⟨rfl, hb⟩; have HB7 := Lib.hid (below_step HB6.out hb); clear hb HB6))
  go_ret
  exact ⟨rfl, HB7.out⟩
set_option maxRecDepth 100000 in
set_option maxHeartbeats 8000000 in
theorem back_yes (m : M) (A7 : Option Addr) (g7 : Nat) (A8 : Option Addr) (g8 : Nat) (A9 : Option Addr) (g9 : Nat) (A10 : Option Addr) (g10 : Nat) (A11 : Option Addr) (g11 : Nat) (w : World) (ho : OkM m) (hm : HasM m A7 g7 A8 g8 A9 g9 A10 g10 A11 g11 w) (hg : greatM m = false) (hy : mayM m = true) :
    Calls Try.prog 6 #[.agg #[.int .u8 m.kind, .int .u8 m.fr, .int .u8 m.dst, .int .u32 m.id, .int .u8 m.tg, .int .u8 m.rg, .bool m.flag, .slice A7 m.news.length g7, .slice A8 m.keys.length g8, .slice A9 m.recs.length g9, .slice A10 m.seen.length g10, .slice A11 m.digs.length g11]] w fun e w' => e = .returned (.bool true) ∧ Below w.heap.size w w' := by
  have hgc := fun (W : World) (h : Below w.heap.size w W) => great_b m A7 g7 A8 g8 A9 g9 A10 g10 A11 g11 W (hm.below h) ho
  rw [hg] at hgc
  have GC := Lib.hid hgc
  have FX := Lib.hid fixed_any
  clear hgc
  have hs := sm_of m ho hg
  have hpk := fun (b c tb : Nat) (W : World) (h : Below w.heap.size w W) (hc : MCod W b c tb) => pack_any m A7 g7 A8 g8 A9 g9 A10 g10 A11 g11 b c tb W (hm.below h) hs hc
  rw [packE_yes m hy hs] at hpk
  have PK := Lib.hid hpk
  have UN := Lib.hid (fun (b c tb : Nat) (W : World) (hc : MCod W b c tb) => unpack_back m hy hs b c tb W hc)
  have HM := Lib.hid (fun (W : World) (h : Below w.heap.size w W) => hm.below h)
  have HS := Lib.hid hs
  clear hs hpk hy
  generalize packS m = S at *
  clear hg ho hm
  go_enter Try.func6, Try.ntmps6
  go_upto_region 1 with (fail)
  have AZ := Lib.hid (at_new w #[.int .u8 m.kind, .int .u8 m.fr, .int .u8 m.dst, .int .u32 m.id, .int .u8 m.tg, .int .u8 m.rg, .bool m.flag, .slice A7 m.news.length g7, .slice A8 m.keys.length g8, .slice A9 m.recs.length g9, .slice A10 m.seen.length g10, .slice A11 m.digs.length g11] 29)
  have HB := Lib.hid (below_alloc (Below.refl w.heap.size w) (.cells #[.int .u8 m.kind, .int .u8 m.fr, .int .u8 m.dst, .int .u32 m.id, .int .u8 m.tg, .int .u8 m.rg, .bool m.flag, .slice A7 m.news.length g7, .slice A8 m.keys.length g8, .slice A9 m.recs.length g9, .slice A10 m.seen.length g10, .slice A11 m.digs.length g11] 29))
  generalize w.alloc (.cells #[.int .u8 m.kind, .int .u8 m.fr, .int .u8 m.dst, .int .u32 m.id, .int .u8 m.tg, .int .u8 m.rg, .bool m.flag, .slice A7 m.news.length g7, .slice A8 m.keys.length g8, .slice A9 m.recs.length g9, .slice A10 m.seen.length g10, .slice A11 m.digs.length g11] 29) = w1 at *
  have ez0 : w1.cell? ⟨w.heap.size, 0, none⟩ = some (.int .u8 m.kind) := AZ.out.cell 0
  have ez1 : w1.cell? ⟨w.heap.size, 1, none⟩ = some (.int .u8 m.fr) := AZ.out.cell 1
  have ez2 : w1.cell? ⟨w.heap.size, 2, none⟩ = some (.int .u8 m.dst) := AZ.out.cell 2
  have ez3 : w1.cell? ⟨w.heap.size, 3, none⟩ = some (.int .u32 m.id) := AZ.out.cell 3
  have ez4 : w1.cell? ⟨w.heap.size, 4, none⟩ = some (.int .u8 m.tg) := AZ.out.cell 4
  have ez5 : w1.cell? ⟨w.heap.size, 5, none⟩ = some (.int .u8 m.rg) := AZ.out.cell 5
  have ez6 : w1.cell? ⟨w.heap.size, 6, none⟩ = some (.bool m.flag) := AZ.out.cell 6
  have ez7 : w1.cell? ⟨w.heap.size, 7, none⟩ = some (.slice A7 m.news.length g7) := AZ.out.cell 7
  have ez8 : w1.cell? ⟨w.heap.size, 8, none⟩ = some (.slice A8 m.keys.length g8) := AZ.out.cell 8
  have ez9 : w1.cell? ⟨w.heap.size, 9, none⟩ = some (.slice A9 m.recs.length g9) := AZ.out.cell 9
  have ez10 : w1.cell? ⟨w.heap.size, 10, none⟩ = some (.slice A10 m.seen.length g10) := AZ.out.cell 10
  have ez11 : w1.cell? ⟨w.heap.size, 11, none⟩ = some (.slice A11 m.digs.length g11) := AZ.out.cell 11
  go_upto_region 3 with (go_at_call 7; (with_reducible refine (GC.out _ HB.out).mono ?_); rintro e w2 ⟨rfl, hb2⟩; have HB2 := Lib.hid (below_step HB.out hb2); have AZ2 := Lib.hid (at_below AZ.out hb2); clear hb2 HB AZ)
  go_wp2_with (fail)
  refine (mnew _).mono ?_
  rintro e w3 ⟨b, c, tb, rfl, hc, g1, g2, g3, g4, g5, g6, hb⟩
  have AZ3 := Lib.hid (at_below AZ2.out hb)
  have HB3 := Lib.hid (below_step HB2.out hb)
  have HT1 := Lib.hid (show w.heap.size < b ∧ w.heap.size < c ∧ w.heap.size < tb from ⟨Nat.lt_of_lt_of_le AZ2.out.lt g1, Nat.lt_of_lt_of_le AZ2.out.lt g2, Nat.lt_of_lt_of_le AZ2.out.lt g3⟩)
  have HL1 := Lib.hid (show b < w3.heap.size ∧ c < w3.heap.size ∧ tb < w3.heap.size from ⟨g4, g5, g6⟩)
  have HC3 := Lib.hid hc
  clear hc g1 g2 g3 g4 g5 g6 hb AZ2 HB2
  go_wp2_with (fail)
  refine (mnew _).mono ?_
  rintro e w4 ⟨b', c', tb', rfl, hc, g1, g2, g3, g4, g5, g6, hb⟩
  have AZ4 := Lib.hid (at_below AZ3.out hb)
  have HB4 := Lib.hid (below_step HB3.out hb)
  have HC4 := Lib.hid (HC3.out.below hb)
  have HD4 := Lib.hid hc
  have HT2 := Lib.hid (show (b < b' ∧ c < b' ∧ tb < b') ∧ (b < c' ∧ c < c' ∧ tb < c') ∧ (b < tb' ∧ c < tb' ∧ tb < tb') from by have := HL1.out; omega)
  clear hc g1 g2 g3 g4 g5 g6 hb AZ3 HB3 HC3 HL1
  have ey0 : w4.cell? ⟨w.heap.size, 0, none⟩ = some (.int .u8 m.kind) := AZ4.out.cell 0
  have ey1 : w4.cell? ⟨w.heap.size, 1, none⟩ = some (.int .u8 m.fr) := AZ4.out.cell 1
  have ey2 : w4.cell? ⟨w.heap.size, 2, none⟩ = some (.int .u8 m.dst) := AZ4.out.cell 2
  have ey3 : w4.cell? ⟨w.heap.size, 3, none⟩ = some (.int .u32 m.id) := AZ4.out.cell 3
  have ey4 : w4.cell? ⟨w.heap.size, 4, none⟩ = some (.int .u8 m.tg) := AZ4.out.cell 4
  have ey5 : w4.cell? ⟨w.heap.size, 5, none⟩ = some (.int .u8 m.rg) := AZ4.out.cell 5
  have ey6 : w4.cell? ⟨w.heap.size, 6, none⟩ = some (.bool m.flag) := AZ4.out.cell 6
  have ey7 : w4.cell? ⟨w.heap.size, 7, none⟩ = some (.slice A7 m.news.length g7) := AZ4.out.cell 7
  have ey8 : w4.cell? ⟨w.heap.size, 8, none⟩ = some (.slice A8 m.keys.length g8) := AZ4.out.cell 8
  have ey9 : w4.cell? ⟨w.heap.size, 9, none⟩ = some (.slice A9 m.recs.length g9) := AZ4.out.cell 9
  have ey10 : w4.cell? ⟨w.heap.size, 10, none⟩ = some (.slice A10 m.seen.length g10) := AZ4.out.cell 10
  have ey11 : w4.cell? ⟨w.heap.size, 11, none⟩ = some (.slice A11 m.digs.length g11) := AZ4.out.cell 11
  go_upto_region 7 with (go_at_call 10; (with_reducible refine (PK.out b c tb _ HB4.out HC4.out).mono ?_); rintro e w5 ⟨rfl, ht, hk⟩; have AZ5 := Lib.hid (at_chg AZ4.out hk (by have := HT1.out; omega)); have HB5 := Lib.hid (below_chg HB4.out hk (fun i e => by have := HT1.out; omega)); have HC5 := Lib.hid (HC4.out.chg ht hk); have HD5 := Lib.hid (HD4.out.far hk (by have := HT2.out; omega) (by have := HT2.out; omega) (by have := HT2.out; omega)); clear ht hk AZ4 HB4 HC4 HD4)
  go_wp2_with (fail)
  refine (UN.out b' c' tb' _ HD5.out).mono ?_
  rintro e w6 ⟨B7, h7, B8, h8, B9, h9, B10, h10, B11, h11, rfl, hn, ht, hk⟩
  have HN := Lib.hid hn
  have HT5 := Lib.hid (show b < w5.heap.size ∧ c < w5.heap.size ∧ tb < w5.heap.size from ⟨HC5.out.a.lt, HC5.out.c.a.lt, Frame.isTab_lt HC5.out.c.t⟩)
  have AZ6 := Lib.hid (at_chg AZ5.out hk (by have := HT1.out; have := HT2.out; omega))
  have HB6 := Lib.hid (below_chg HB5.out hk (fun i e => by have := HT1.out; have := HT2.out; omega))
  have HC6 := Lib.hid (HC5.out.far hk (by have := HT2.out; omega) (by have := HT2.out; omega) (by have := HT2.out; omega))
  clear hn ht hk AZ5 HB5 HC5 HD5
  go_upto_region 8 with (fail)
  have AN7 := Lib.hid (at_new w6 #[.int .u8 m.kind, .int .u8 m.fr, .int .u8 m.dst, .int .u32 m.id, .int .u8 m.tg, .int .u8 m.rg, .bool m.flag, .slice B7 m.news.length h7, .slice B8 m.keys.length h8, .slice B9 m.recs.length h9, .slice B10 m.seen.length h10, .slice B11 m.digs.length h11] 29)
  have AZ7 := Lib.hid (at_alloc (o := .cells #[.int .u8 m.kind, .int .u8 m.fr, .int .u8 m.dst, .int .u32 m.id, .int .u8 m.tg, .int .u8 m.rg, .bool m.flag, .slice B7 m.news.length h7, .slice B8 m.keys.length h8, .slice B9 m.recs.length h9, .slice B10 m.seen.length h10, .slice B11 m.digs.length h11] 29) AZ6.out)
  have HB7 := Lib.hid (below_alloc HB6.out (.cells #[.int .u8 m.kind, .int .u8 m.fr, .int .u8 m.dst, .int .u32 m.id, .int .u8 m.tg, .int .u8 m.rg, .bool m.flag, .slice B7 m.news.length h7, .slice B8 m.keys.length h8, .slice B9 m.recs.length h9, .slice B10 m.seen.length h10, .slice B11 m.digs.length h11] 29))
  have HC7 := Lib.hid (HC6.out.below (below_al (o := .cells #[.int .u8 m.kind, .int .u8 m.fr, .int .u8 m.dst, .int .u32 m.id, .int .u8 m.tg, .int .u8 m.rg, .bool m.flag, .slice B7 m.news.length h7, .slice B8 m.keys.length h8, .slice B9 m.recs.length h9, .slice B10 m.seen.length h10, .slice B11 m.digs.length h11] 29) (Below.refl _ _)))
  have KN7 := Lib.hid (chg_alloc (o := .cells #[.int .u8 m.kind, .int .u8 m.fr, .int .u8 m.dst, .int .u32 m.id, .int .u8 m.tg, .int .u8 m.rg, .bool m.flag, .slice B7 m.news.length h7, .slice B8 m.keys.length h8, .slice B9 m.recs.length h9, .slice B10 m.seen.length h10, .slice B11 m.digs.length h11] 29) (chg_refl (fun x => x < w5.heap.size) w6))
  have HZN := Lib.hid (show w.heap.size < w6.heap.size ∧ b < w6.heap.size ∧ c < w6.heap.size ∧ tb < w6.heap.size from ⟨AZ6.out.lt, HC6.out.a.lt, HC6.out.c.a.lt, Frame.isTab_lt HC6.out.c.t⟩)
  clear AZ6 HB6 HC6
  generalize w6.alloc (.cells #[.int .u8 m.kind, .int .u8 m.fr, .int .u8 m.dst, .int .u32 m.id, .int .u8 m.tg, .int .u8 m.rg, .bool m.flag, .slice B7 m.news.length h7, .slice B8 m.keys.length h8, .slice B9 m.recs.length h9, .slice B10 m.seen.length h10, .slice B11 m.digs.length h11] 29) = w7 at *
  generalize w6.heap.size = zn at *
  go_wp2_with (fail)
  refine (UN.out b c tb _ HC7.out).mono ?_
  rintro e w8 ⟨D7, j7, D8, j8, D9, j9, D10, j10, D11, j11, rfl, hn, ht, hk⟩
  have HO := Lib.hid hn
  have AZ8 := Lib.hid (at_chg AZ7.out hk (by have := HT1.out; omega))
  have AN8 := Lib.hid (at_chg AN7.out hk (by have := HZN.out; omega))
  have HB8 := Lib.hid (below_chg HB7.out hk (fun i e => by have := HT1.out; omega))
  have KN8 := Lib.hid (chg_then KN7.out (chg_le hk (fun x e => by have := HT5.out; omega)))
  clear hn ht hk AZ7 AN7 HB7 HC7 KN7
  go_upto_region 9 with (fail)
  have AO9 := Lib.hid (at_new w8 #[.int .u8 m.kind, .int .u8 m.fr, .int .u8 m.dst, .int .u32 m.id, .int .u8 m.tg, .int .u8 m.rg, .bool m.flag, .slice D7 m.news.length j7, .slice D8 m.keys.length j8, .slice D9 m.recs.length j9, .slice D10 m.seen.length j10, .slice D11 m.digs.length j11] 29)
  have AZ9 := Lib.hid (at_alloc (o := .cells #[.int .u8 m.kind, .int .u8 m.fr, .int .u8 m.dst, .int .u32 m.id, .int .u8 m.tg, .int .u8 m.rg, .bool m.flag, .slice D7 m.news.length j7, .slice D8 m.keys.length j8, .slice D9 m.recs.length j9, .slice D10 m.seen.length j10, .slice D11 m.digs.length j11] 29) AZ8.out)
  have AN9 := Lib.hid (at_alloc (o := .cells #[.int .u8 m.kind, .int .u8 m.fr, .int .u8 m.dst, .int .u32 m.id, .int .u8 m.tg, .int .u8 m.rg, .bool m.flag, .slice D7 m.news.length j7, .slice D8 m.keys.length j8, .slice D9 m.recs.length j9, .slice D10 m.seen.length j10, .slice D11 m.digs.length j11] 29) AN8.out)
  have HB9 := Lib.hid (below_alloc HB8.out (.cells #[.int .u8 m.kind, .int .u8 m.fr, .int .u8 m.dst, .int .u32 m.id, .int .u8 m.tg, .int .u8 m.rg, .bool m.flag, .slice D7 m.news.length j7, .slice D8 m.keys.length j8, .slice D9 m.recs.length j9, .slice D10 m.seen.length j10, .slice D11 m.digs.length j11] 29))
  have KN9 := Lib.hid (chg_alloc (o := .cells #[.int .u8 m.kind, .int .u8 m.fr, .int .u8 m.dst, .int .u32 m.id, .int .u8 m.tg, .int .u8 m.rg, .bool m.flag, .slice D7 m.news.length j7, .slice D8 m.keys.length j8, .slice D9 m.recs.length j9, .slice D10 m.seen.length j10, .slice D11 m.digs.length j11] 29) KN8.out)
  have KO9 := Lib.hid (chg_alloc (o := .cells #[.int .u8 m.kind, .int .u8 m.fr, .int .u8 m.dst, .int .u32 m.id, .int .u8 m.tg, .int .u8 m.rg, .bool m.flag, .slice D7 m.news.length j7, .slice D8 m.keys.length j8, .slice D9 m.recs.length j9, .slice D10 m.seen.length j10, .slice D11 m.digs.length j11] 29) (chg_refl (fun x => x < w7.heap.size) w8))
  clear AZ8 AN8 HB8 KN8
  generalize w8.alloc (.cells #[.int .u8 m.kind, .int .u8 m.fr, .int .u8 m.dst, .int .u32 m.id, .int .u8 m.tg, .int .u8 m.rg, .bool m.flag, .slice D7 m.news.length j7, .slice D8 m.keys.length j8, .slice D9 m.recs.length j9, .slice D10 m.seen.length j10, .slice D11 m.digs.length j11] 29) = w9 at *
  generalize w8.heap.size = zo at *
  have ea0 : w9.cell? ⟨w.heap.size, 0, none⟩ = some (.int .u8 m.kind) := AZ9.out.cell 0
  have ea1 : w9.cell? ⟨w.heap.size, 1, none⟩ = some (.int .u8 m.fr) := AZ9.out.cell 1
  have ea2 : w9.cell? ⟨w.heap.size, 2, none⟩ = some (.int .u8 m.dst) := AZ9.out.cell 2
  have ea3 : w9.cell? ⟨w.heap.size, 3, none⟩ = some (.int .u32 m.id) := AZ9.out.cell 3
  have ea4 : w9.cell? ⟨w.heap.size, 4, none⟩ = some (.int .u8 m.tg) := AZ9.out.cell 4
  have ea5 : w9.cell? ⟨w.heap.size, 5, none⟩ = some (.int .u8 m.rg) := AZ9.out.cell 5
  have ea6 : w9.cell? ⟨w.heap.size, 6, none⟩ = some (.bool m.flag) := AZ9.out.cell 6
  have ea7 : w9.cell? ⟨w.heap.size, 7, none⟩ = some (.slice A7 m.news.length g7) := AZ9.out.cell 7
  have ea8 : w9.cell? ⟨w.heap.size, 8, none⟩ = some (.slice A8 m.keys.length g8) := AZ9.out.cell 8
  have ea9 : w9.cell? ⟨w.heap.size, 9, none⟩ = some (.slice A9 m.recs.length g9) := AZ9.out.cell 9
  have ea10 : w9.cell? ⟨w.heap.size, 10, none⟩ = some (.slice A10 m.seen.length g10) := AZ9.out.cell 10
  have ea11 : w9.cell? ⟨w.heap.size, 11, none⟩ = some (.slice A11 m.digs.length g11) := AZ9.out.cell 11
  go_upto_region 11 with (go_at_call 10; (with_reducible refine (pack_nil _ _ _ _ _ _ _ _ _ _ _ _ _ _ _ _ _ _ _ _ _ _ _).mono ?_); rintro e w10 ⟨rfl, hb⟩; have AZA := Lib.hid (at_below AZ9.out hb); have ANA := Lib.hid (at_below AN9.out hb); have AOA := Lib.hid (at_below AO9.out hb); have HBA := Lib.hid (below_step HB9.out hb); have KNA := Lib.hid (chg_below KN9.out hb); have KOA := Lib.hid (chg_below KO9.out hb); clear hb AZ9 AN9 AO9 HB9 KN9 KO9)
  go_wp2_with (fail)
  refine (unpack_nil S _).mono ?_
  rintro e w11 ⟨rfl, hb⟩
  have AZB := Lib.hid (at_below AZA.out hb)
  have ANB := Lib.hid (at_below ANA.out hb)
  have AOB := Lib.hid (at_below AOA.out hb)
  have HBB := Lib.hid (below_step HBA.out hb)
  have KNB := Lib.hid (chg_below KNA.out hb)
  have KOB := Lib.hid (chg_below KOA.out hb)
  clear hb AZA ANA AOA HBA KNA KOA
  go_upto_region 12 with (fail)
  have AZC := Lib.hid (at_alloc (o := .cells #[.int .u8 0, .int .u8 0, .int .u8 0, .int .u32 0, .int .u8 0, .int .u8 0, .bool false, .slice none 0 0, .slice none 0 0, .slice none 0 0, .slice none 0 0, .slice none 0 0] 29) AZB.out)
  have ANC := Lib.hid (at_alloc (o := .cells #[.int .u8 0, .int .u8 0, .int .u8 0, .int .u32 0, .int .u8 0, .int .u8 0, .bool false, .slice none 0 0, .slice none 0 0, .slice none 0 0, .slice none 0 0, .slice none 0 0] 29) ANB.out)
  have AOC := Lib.hid (at_alloc (o := .cells #[.int .u8 0, .int .u8 0, .int .u8 0, .int .u32 0, .int .u8 0, .int .u8 0, .bool false, .slice none 0 0, .slice none 0 0, .slice none 0 0, .slice none 0 0, .slice none 0 0] 29) AOB.out)
  have HBC := Lib.hid (below_alloc HBB.out (.cells #[.int .u8 0, .int .u8 0, .int .u8 0, .int .u32 0, .int .u8 0, .int .u8 0, .bool false, .slice none 0 0, .slice none 0 0, .slice none 0 0, .slice none 0 0, .slice none 0 0] 29))
  have KNC := Lib.hid (chg_alloc (o := .cells #[.int .u8 0, .int .u8 0, .int .u8 0, .int .u32 0, .int .u8 0, .int .u8 0, .bool false, .slice none 0 0, .slice none 0 0, .slice none 0 0, .slice none 0 0, .slice none 0 0] 29) KNB.out)
  have KOC := Lib.hid (chg_alloc (o := .cells #[.int .u8 0, .int .u8 0, .int .u8 0, .int .u32 0, .int .u8 0, .int .u8 0, .bool false, .slice none 0 0, .slice none 0 0, .slice none 0 0, .slice none 0 0, .slice none 0 0] 29) KOB.out)
  clear AZB ANB AOB HBB KNB KOB
  generalize w11.alloc (.cells #[.int .u8 0, .int .u8 0, .int .u8 0, .int .u32 0, .int .u8 0, .int .u8 0, .bool false, .slice none 0 0, .slice none 0 0, .slice none 0 0, .slice none 0 0, .slice none 0 0] 29) = w12 at *
  generalize w11.heap.size = zy at *
  go_wp2_with (first
    | (go_at_call 8; (with_reducible refine (FX.out _).mono ?_); rintro e w13 ⟨rfl, hb⟩; have AZD := Lib.hid (at_below AZC.out hb); have AND := Lib.hid (at_below ANC.out hb); have AOD := Lib.hid (at_below AOC.out hb); have HBD := Lib.hid (below_step HBC.out hb); have KND := Lib.hid (chg_below KNC.out hb); have KOD := Lib.hid (chg_below KOC.out hb); clear hb AZC ANC AOC HBC KNC KOC; have eb0 : w13.cell? ⟨w.heap.size, 0, none⟩ = some (.int .u8 m.kind) := AZD.out.cell 0; have eb1 : w13.cell? ⟨w.heap.size, 1, none⟩ = some (.int .u8 m.fr) := AZD.out.cell 1; have eb2 : w13.cell? ⟨w.heap.size, 2, none⟩ = some (.int .u8 m.dst) := AZD.out.cell 2; have eb3 : w13.cell? ⟨w.heap.size, 3, none⟩ = some (.int .u32 m.id) := AZD.out.cell 3; have eb4 : w13.cell? ⟨w.heap.size, 4, none⟩ = some (.int .u8 m.tg) := AZD.out.cell 4; have eb5 : w13.cell? ⟨w.heap.size, 5, none⟩ = some (.int .u8 m.rg) := AZD.out.cell 5; have eb6 : w13.cell? ⟨w.heap.size, 6, none⟩ = some (.bool m.flag) := AZD.out.cell 6; have eb7 : w13.cell? ⟨w.heap.size, 7, none⟩ = some (.slice A7 m.news.length g7) := AZD.out.cell 7; have eb8 : w13.cell? ⟨w.heap.size, 8, none⟩ = some (.slice A8 m.keys.length g8) := AZD.out.cell 8; have eb9 : w13.cell? ⟨w.heap.size, 9, none⟩ = some (.slice A9 m.recs.length g9) := AZD.out.cell 9; have eb10 : w13.cell? ⟨w.heap.size, 10, none⟩ = some (.slice A10 m.seen.length g10) := AZD.out.cell 10; have eb11 : w13.cell? ⟨w.heap.size, 11, none⟩ = some (.slice A11 m.digs.length g11) := AZD.out.cell 11; have ec0 : w13.cell? ⟨zn, 0, none⟩ = some (.int .u8 m.kind) := AND.out.cell 0; have ec1 : w13.cell? ⟨zn, 1, none⟩ = some (.int .u8 m.fr) := AND.out.cell 1; have ec2 : w13.cell? ⟨zn, 2, none⟩ = some (.int .u8 m.dst) := AND.out.cell 2; have ec3 : w13.cell? ⟨zn, 3, none⟩ = some (.int .u32 m.id) := AND.out.cell 3; have ec4 : w13.cell? ⟨zn, 4, none⟩ = some (.int .u8 m.tg) := AND.out.cell 4; have ec5 : w13.cell? ⟨zn, 5, none⟩ = some (.int .u8 m.rg) := AND.out.cell 5; have ec6 : w13.cell? ⟨zn, 6, none⟩ = some (.bool m.flag) := AND.out.cell 6; have ec7 : w13.cell? ⟨zn, 7, none⟩ = some (.slice B7 m.news.length h7) := AND.out.cell 7; have ec8 : w13.cell? ⟨zn, 8, none⟩ = some (.slice B8 m.keys.length h8) := AND.out.cell 8; have ec9 : w13.cell? ⟨zn, 9, none⟩ = some (.slice B9 m.recs.length h9) := AND.out.cell 9; have ec10 : w13.cell? ⟨zn, 10, none⟩ = some (.slice B10 m.seen.length h10) := AND.out.cell 10; have ec11 : w13.cell? ⟨zn, 11, none⟩ = some (.slice B11 m.digs.length h11) := AND.out.cell 11)
    | (go_at_call 14; (with_reducible refine (same_c m B7 h7 B8 h8 B9 h9 B10 h10 B11 h11 A7 g7 A8 g8 A9 g9 A10 g10 A11 g11 _ (HN.out _ KND.out) (HM.out _ HBD.out) HS.out).mono ?_); rintro e w14 ⟨rfl, hb⟩; have AZE := Lib.hid (at_below AZD.out hb); have ANE := Lib.hid (at_below AND.out hb); have AOE := Lib.hid (at_below AOD.out hb); have HBE := Lib.hid (below_step HBD.out hb); have KNE := Lib.hid (chg_below KND.out hb); have KOE := Lib.hid (chg_below KOD.out hb); clear hb AZD AND AOD HBD KND KOD; have ed0 : w14.cell? ⟨w.heap.size, 0, none⟩ = some (.int .u8 m.kind) := AZE.out.cell 0; have ed1 : w14.cell? ⟨w.heap.size, 1, none⟩ = some (.int .u8 m.fr) := AZE.out.cell 1; have ed2 : w14.cell? ⟨w.heap.size, 2, none⟩ = some (.int .u8 m.dst) := AZE.out.cell 2; have ed3 : w14.cell? ⟨w.heap.size, 3, none⟩ = some (.int .u32 m.id) := AZE.out.cell 3; have ed4 : w14.cell? ⟨w.heap.size, 4, none⟩ = some (.int .u8 m.tg) := AZE.out.cell 4; have ed5 : w14.cell? ⟨w.heap.size, 5, none⟩ = some (.int .u8 m.rg) := AZE.out.cell 5; have ed6 : w14.cell? ⟨w.heap.size, 6, none⟩ = some (.bool m.flag) := AZE.out.cell 6; have ed7 : w14.cell? ⟨w.heap.size, 7, none⟩ = some (.slice A7 m.news.length g7) := AZE.out.cell 7; have ed8 : w14.cell? ⟨w.heap.size, 8, none⟩ = some (.slice A8 m.keys.length g8) := AZE.out.cell 8; have ed9 : w14.cell? ⟨w.heap.size, 9, none⟩ = some (.slice A9 m.recs.length g9) := AZE.out.cell 9; have ed10 : w14.cell? ⟨w.heap.size, 10, none⟩ = some (.slice A10 m.seen.length g10) := AZE.out.cell 10; have ed11 : w14.cell? ⟨w.heap.size, 11, none⟩ = some (.slice A11 m.digs.length g11) := AZE.out.cell 11; have ee0 : w14.cell? ⟨zo, 0, none⟩ = some (.int .u8 m.kind) := AOE.out.cell 0; have ee1 : w14.cell? ⟨zo, 1, none⟩ = some (.int .u8 m.fr) := AOE.out.cell 1; have ee2 : w14.cell? ⟨zo, 2, none⟩ = some (.int .u8 m.dst) := AOE.out.cell 2; have ee3 : w14.cell? ⟨zo, 3, none⟩ = some (.int .u32 m.id) := AOE.out.cell 3; have ee4 : w14.cell? ⟨zo, 4, none⟩ = some (.int .u8 m.tg) := AOE.out.cell 4; have ee5 : w14.cell? ⟨zo, 5, none⟩ = some (.int .u8 m.rg) := AOE.out.cell 5; have ee6 : w14.cell? ⟨zo, 6, none⟩ = some (.bool m.flag) := AOE.out.cell 6; have ee7 : w14.cell? ⟨zo, 7, none⟩ = some (.slice D7 m.news.length j7) := AOE.out.cell 7; have ee8 : w14.cell? ⟨zo, 8, none⟩ = some (.slice D8 m.keys.length j8) := AOE.out.cell 8; have ee9 : w14.cell? ⟨zo, 9, none⟩ = some (.slice D9 m.recs.length j9) := AOE.out.cell 9; have ee10 : w14.cell? ⟨zo, 10, none⟩ = some (.slice D10 m.seen.length j10) := AOE.out.cell 10; have ee11 : w14.cell? ⟨zo, 11, none⟩ = some (.slice D11 m.digs.length j11) := AOE.out.cell 11)
    | (go_at_call 14; (with_reducible refine (same_c m D7 j7 D8 j8 D9 j9 D10 j10 D11 j11 A7 g7 A8 g8 A9 g9 A10 g10 A11 g11 _ (HO.out _ KOE.out) (HM.out _ HBE.out) HS.out).mono ?_); rintro e w15 ⟨rfl, hb⟩; have HBF := Lib.hid (below_step HBE.out hb); clear hb HBE))
  go_ret
  exact ⟨rfl, HBF.out⟩
theorem back_walk (m : M) (A7 : Option Addr) (g7 : Nat) (A8 : Option Addr) (g8 : Nat) (A9 : Option Addr) (g9 : Nat) (A10 : Option Addr) (g10 : Nat) (A11 : Option Addr) (g11 : Nat) (w : World) (ho : OkM m) (hm : HasM m A7 g7 A8 g8 A9 g9 A10 g10 A11 g11 w) :
    Calls Try.prog 6 #[.agg #[.int .u8 m.kind, .int .u8 m.fr, .int .u8 m.dst, .int .u32 m.id, .int .u8 m.tg, .int .u8 m.rg, .bool m.flag, .slice A7 m.news.length g7, .slice A8 m.keys.length g8, .slice A9 m.recs.length g9, .slice A10 m.seen.length g10, .slice A11 m.digs.length g11]] w fun e w' => e = .returned (.bool true) ∧ Below w.heap.size w w' := by
  cases hg : greatM m
  · cases hy : mayM m
    · exact back_no m A7 g7 A8 g8 A9 g9 A10 g10 A11 g11 w ho hm hg hy
    · exact back_yes m A7 g7 A8 g8 A9 g9 A10 g10 A11 g11 w ho hm hg hy
  · exact back_great m A7 g7 A8 g8 A9 g9 A10 g10 A11 g11 w ho hm hg
end Go.Proofs.Ytdjompbhlkgmbaa.Msg
end
section
/- api.Msg, and its lists, opened (own text; written by wip/tools/gen_msgopen.py). -/
namespace Go.Proofs.Ytdjompbhlkgmbaa.Opener
open Go.RowKit Go.ChangeShapes Go.WideShapes Go.Deep
open Go.Proofs.YtdjompbhlkgmbaaW.PrintWords (Kd)
set_option linter.unusedVariables false
set_option linter.unusedSimpArgs false
section
variable {H : Type} {enc : TypeId × Value → H} {P : Program} {w : World} {base : Nat} {spare : Nat → Bool} {held : Bool}
/-- A datum in the machine's reach. -/
def Sz (P : Program) (t : TypeId) (d : DataW H) : Prop := ∀ n, n ∈ DataW.weights P t d → n ≤ 140737488351232
theorem fields_sz {t : TypeId} {fs : Array Field} {fuel : Nat} {cs : List Value} {x : DataW H × List MemPlace} (ht : P.underlying t = some (.struct fs)) (h : DataW.trod enc P w base spare held fuel t cs = some x) (hw : Sz P t x.1) :
    cs.length = P.cellsOf t ∧ ∃ n, ∀ (i : Nat) (f : Field), fs[i]? = some f → ∃ y, DataW.trod enc P w base spare held n f.type ((cs.drop f.offset).take (P.cellsOf f.type)) = some y ∧ Sz P f.type y.1 := by
  obtain ⟨xs, n, _, hx, hl, hlen, hf⟩ := DataW.trod_struct ht h
  refine ⟨hl, n, fun i f hi => ?_⟩
  have hil : i < xs.length := by
    rw [hlen]
    rcases Nat.lt_or_ge i fs.size with g | g
    · exact g
    · rw [Array.getElem?_eq_none g] at hi; cases hi
  refine ⟨xs[i], by rw [hf i f hi, List.getElem?_eq_getElem hil], fun m hm => hw m ?_⟩
  rw [hx]
  simp only [DataW.weights, ht]
  exact DataW.weights_mem_each (j := i) (t := f.type) (d := xs[i].1) (by rw [List.getElem?_map, Array.getElem?_toList, hi]; rfl) (by rw [List.getElem?_map, List.getElem?_eq_getElem hil]; rfl) m hm
theorem str_sz {t : TypeId} {fuel : Nat} {cs : List Value} {x : DataW H × List MemPlace} (ht : P.underlying t = some .string) (h : DataW.trod enc P w base spare held fuel t cs = some x) (hw : Sz P t x.1) : ∃ s : ByteArray, cs = [.string s] ∧ s.size ≤ 140737488351232 := by
  obtain ⟨s, e, ex, _⟩ := DataW.trod_string ht h
  refine ⟨s, e, ?_⟩
  have := hw s.data.toList.length (by rw [ex]; simp [DataW.weights])
  rw [Array.length_toList] at this
  exact this
theorem mem_all {e : TypeId} {d : DataW H} {n : Nat} : ∀ l : List (DataW H), d ∈ l → n ∈ DataW.weights P e d → n ∈ DataW.weightsAll P e l
  | [], h, _ => by cases h
  | y :: l, h, hn => by
    simp only [DataW.weightsAll, List.mem_append]
    rcases List.mem_cons.1 h with e1 | e1
    · rw [e1] at hn; exact .inl hn
    · exact .inr (mem_all l e1 hn)
theorem rows_sz {t e : TypeId} {C : Nat} {R : List Value → Prop} {fuel : Nat} {cs : List Value} {x : DataW H × List MemPlace} (ht : P.underlying t = some (.slice e)) (hC : P.cellsOf e = C) (hpos : 0 < C) (hby : 1 ≤ P.bytesOf e)
    (hR : ∀ n cs' y, DataW.trod enc P w base spare held n e cs' = some y → Sz P e y.1 → R cs') (h : DataW.trod enc P w base spare held fuel t cs = some x) (hw : Sz P t x.1) :
    ∃ (a : Option Addr) (len cap : Nat), cs = [.slice a len cap] ∧ len ≤ 140737488351232 ∧ len ≤ cap ∧ cap ≤ maxLen ∧ (0 < len → ∃ b off, a = some ⟨b, off, none⟩ ∧ b < w.heap.size ∧
      ∀ i, i < len → ∃ cs', R cs' ∧ cs'.length = C ∧ ∀ j, j < C → w.cell? ⟨b, off + (i * C + j), none⟩ = cs'[j]?) := by
  rcases open_slice ht h with ⟨h0, _⟩ | ⟨a, len, cap, m, n, D, Pl, hcs, hb, hl, hm, hmm, hx, hi⟩
  · exact ⟨none, 0, 0, h0, by omega, Nat.le_refl _, by unfold maxLen; omega, fun h => absurd h (by omega)⟩
  · have h1 : (((List.range len).map D).length + ((List.range (m - len)).map fun j => D (len + j)).length) * P.bytesOf e ≤ 140737488351232 := by
      refine hw _ ?_
      rw [hx]
      simp only [DataW.weights, ht]
      exact List.mem_cons_self ..
    have hlen : len ≤ 140737488351232 := by
      rw [List.length_map, List.length_range] at h1
      have h2 : len * 1 ≤ (len + ((List.range (m - len)).map fun j => D (len + j)).length) * P.bytesOf e := Nat.mul_le_mul (by omega) hby
      omega
    refine ⟨some a, len, cap, hcs, hlen, hl, hm, fun hp => ?_⟩
    have hml : len ≤ m := by rw [hmm]; split <;> omega
    rw [hC] at hi
    obtain ⟨b, off, spot⟩ := a
    obtain ⟨cs0, hc0, ht0⟩ := hi 0 (by omega)
    obtain ⟨_, hl0, hat0⟩ := World.cells?_some hc0
    have h00 := hat0 0 hpos
    rw [List.getElem?_eq_getElem (by omega)] at h00
    have hspot : spot = none := by simpa [Addr.add] using World.cell?_spot h00
    subst hspot
    refine ⟨b, off, rfl, ?_, fun i hil => ?_⟩
    · have := World.block_lt_of_cell? w _ h00
      simpa [Addr.add] using this
    · obtain ⟨cs', hc, ht'⟩ := hi i (by omega)
      obtain ⟨_, hcl, hat⟩ := World.cells?_some hc
      refine ⟨cs', hR _ _ _ ht' (fun k hk => hw k ?_), hcl, fun j hj => ?_⟩
      · rw [hx]
        simp only [DataW.weights, ht]
        refine List.mem_cons_of_mem _ (List.mem_append_left _ (mem_all _ ?_ hk))
        exact List.mem_map.2 ⟨i, List.mem_range.2 hil, rfl⟩
      have := hat j hj
      rw [Go.Deep.add_add, Go.WideShapes.add_plain] at this
      exact this
end
theorem cells_u64 : Try.prog.cellsOf 50 = 1 := by kernel_rfl
theorem cells_u32 : Try.prog.cellsOf 22 = 1 := by kernel_rfl
theorem cells_u8 : Try.prog.cellsOf 5 = 1 := by kernel_rfl
theorem cells_string : Try.prog.cellsOf 9 = 1 := by kernel_rfl
theorem cells_bool : Try.prog.cellsOf 4 = 1 := by kernel_rfl
theorem cells_Stamp : Try.prog.cellsOf 52 = 3 := by kernel_rfl
theorem cells_Rec : Try.prog.cellsOf 54 = 8 := by kernel_rfl
theorem cells_Member : Try.prog.cellsOf 70 = 2 := by kernel_rfl
theorem cells_News : Try.prog.cellsOf 72 = 3 := by kernel_rfl
theorem cells_Seen : Try.prog.cellsOf 56 = 5 := by kernel_rfl
theorem cells_s7 : Try.prog.cellsOf 23 = 1 := by kernel_rfl
theorem cells_s8 : Try.prog.cellsOf 24 = 1 := by kernel_rfl
theorem cells_s9 : Try.prog.cellsOf 25 = 1 := by kernel_rfl
theorem cells_s10 : Try.prog.cellsOf 26 = 1 := by kernel_rfl
theorem cells_s11 : Try.prog.cellsOf 27 = 1 := by kernel_rfl
theorem cells_Msg : Try.prog.cellsOf 29 = 12 := by kernel_rfl
section
variable {H : Type} {enc : TypeId × Value → H} {w : World} {base : Nat} {spare : Nat → Bool} {held : Bool}
/-- The cells of a Stamp. -/
def IsStamp (cs : List Value) : Prop := ∃ (p : Int) (l : Int) (n : Int), cs = [.int .u64 p, .int .u32 l, .int .u8 n] ∧ (0 ≤ p ∧ p ≤ 18446744073709551615) ∧ (0 ≤ l ∧ l ≤ 4294967295) ∧ (0 ≤ n ∧ n ≤ 255)
set_option maxRecDepth 100000 in
theorem Stamp_cells {fuel : Nat} {cs : List Value} {x : DataW H × List MemPlace} (h : DataW.trod enc Try.prog w base spare held fuel 52 cs = some x) (hw : Sz Try.prog 52 x.1) : IsStamp cs := by
  obtain ⟨hl, n, hf⟩ := fields_sz Try.underlying52 h hw
  rw [cells_Stamp] at hl
  match cs, hl with
  | [c0, c1, c2], _ =>
    obtain ⟨y0, h0, s0⟩ := hf 0 _ rfl
    replace h0 : DataW.trod enc Try.prog w base spare held n 50 (List.take (Try.prog.cellsOf 50) (List.drop 0 [c0, c1, c2])) = some y0 := h0
    rw [cells_u64] at h0
    replace h0 : DataW.trod enc Try.prog w base spare held n 50 [c0] = some y0 := h0
    obtain ⟨a0, e0, _, w0⟩ := DataW.trod_int Try.underlying50 h0
    obtain ⟨y1, h1, s1⟩ := hf 1 _ rfl
    replace h1 : DataW.trod enc Try.prog w base spare held n 22 (List.take (Try.prog.cellsOf 22) (List.drop 1 [c0, c1, c2])) = some y1 := h1
    rw [cells_u32] at h1
    replace h1 : DataW.trod enc Try.prog w base spare held n 22 [c1] = some y1 := h1
    obtain ⟨a1, e1, _, w1⟩ := DataW.trod_int Try.underlying22 h1
    obtain ⟨y2, h2, s2⟩ := hf 2 _ rfl
    replace h2 : DataW.trod enc Try.prog w base spare held n 5 (List.take (Try.prog.cellsOf 5) (List.drop 2 [c0, c1, c2])) = some y2 := h2
    rw [cells_u8] at h2
    replace h2 : DataW.trod enc Try.prog w base spare held n 5 [c2] = some y2 := h2
    obtain ⟨a2, e2, _, w2⟩ := DataW.trod_int Try.underlying5 h2
    cases e0
    cases e1
    cases e2
    exact ⟨a0, a1, a2, rfl, bounds_u64 w0, bounds_u32 w1, bounds_u8 w2⟩
/-- The cells of a Rec. -/
def IsRec (cs : List Value) : Prop := ∃ (key : ByteArray) (s_p : Int) (s_l : Int) (s_n : Int) (kind : Int) (flags : Int) (expiry : Int) (body : ByteArray), cs = [.string key, .int .u64 s_p, .int .u32 s_l, .int .u8 s_n, .int .u8 kind, .int .u32 flags, .int .u64 expiry, .string body] ∧ (key.size ≤ 140737488351232) ∧ (0 ≤ s_p ∧ s_p ≤ 18446744073709551615) ∧ (0 ≤ s_l ∧ s_l ≤ 4294967295) ∧ (0 ≤ s_n ∧ s_n ≤ 255) ∧ (0 ≤ kind ∧ kind ≤ 255) ∧ (0 ≤ flags ∧ flags ≤ 4294967295) ∧ (0 ≤ expiry ∧ expiry ≤ 18446744073709551615) ∧ (body.size ≤ 140737488351232)
set_option maxRecDepth 100000 in
theorem Rec_cells {fuel : Nat} {cs : List Value} {x : DataW H × List MemPlace} (h : DataW.trod enc Try.prog w base spare held fuel 54 cs = some x) (hw : Sz Try.prog 54 x.1) : IsRec cs := by
  obtain ⟨hl, n, hf⟩ := fields_sz Try.underlying54 h hw
  rw [cells_Rec] at hl
  match cs, hl with
  | [c0, c1, c2, c3, c4, c5, c6, c7], _ =>
    obtain ⟨y0, h0, s0⟩ := hf 0 _ rfl
    replace h0 : DataW.trod enc Try.prog w base spare held n 9 (List.take (Try.prog.cellsOf 9) (List.drop 0 [c0, c1, c2, c3, c4, c5, c6, c7])) = some y0 := h0
    rw [cells_string] at h0
    replace h0 : DataW.trod enc Try.prog w base spare held n 9 [c0] = some y0 := h0
    obtain ⟨a0, e0, w0⟩ := str_sz Try.underlying9 h0 s0
    obtain ⟨y1, h1, s1⟩ := hf 1 _ rfl
    replace h1 : DataW.trod enc Try.prog w base spare held n 52 (List.take (Try.prog.cellsOf 52) (List.drop 1 [c0, c1, c2, c3, c4, c5, c6, c7])) = some y1 := h1
    rw [cells_Stamp] at h1
    replace h1 : DataW.trod enc Try.prog w base spare held n 52 [c1, c2, c3] = some y1 := h1
    obtain ⟨a1_0, a1_1, a1_2, e1, b1_0, b1_1, b1_2⟩ := Stamp_cells h1 s1
    obtain ⟨y2, h2, s2⟩ := hf 2 _ rfl
    replace h2 : DataW.trod enc Try.prog w base spare held n 5 (List.take (Try.prog.cellsOf 5) (List.drop 4 [c0, c1, c2, c3, c4, c5, c6, c7])) = some y2 := h2
    rw [cells_u8] at h2
    replace h2 : DataW.trod enc Try.prog w base spare held n 5 [c4] = some y2 := h2
    obtain ⟨a2, e2, _, w2⟩ := DataW.trod_int Try.underlying5 h2
    obtain ⟨y3, h3, s3⟩ := hf 3 _ rfl
    replace h3 : DataW.trod enc Try.prog w base spare held n 22 (List.take (Try.prog.cellsOf 22) (List.drop 5 [c0, c1, c2, c3, c4, c5, c6, c7])) = some y3 := h3
    rw [cells_u32] at h3
    replace h3 : DataW.trod enc Try.prog w base spare held n 22 [c5] = some y3 := h3
    obtain ⟨a3, e3, _, w3⟩ := DataW.trod_int Try.underlying22 h3
    obtain ⟨y4, h4, s4⟩ := hf 4 _ rfl
    replace h4 : DataW.trod enc Try.prog w base spare held n 50 (List.take (Try.prog.cellsOf 50) (List.drop 6 [c0, c1, c2, c3, c4, c5, c6, c7])) = some y4 := h4
    rw [cells_u64] at h4
    replace h4 : DataW.trod enc Try.prog w base spare held n 50 [c6] = some y4 := h4
    obtain ⟨a4, e4, _, w4⟩ := DataW.trod_int Try.underlying50 h4
    obtain ⟨y5, h5, s5⟩ := hf 5 _ rfl
    replace h5 : DataW.trod enc Try.prog w base spare held n 9 (List.take (Try.prog.cellsOf 9) (List.drop 7 [c0, c1, c2, c3, c4, c5, c6, c7])) = some y5 := h5
    rw [cells_string] at h5
    replace h5 : DataW.trod enc Try.prog w base spare held n 9 [c7] = some y5 := h5
    obtain ⟨a5, e5, w5⟩ := str_sz Try.underlying9 h5 s5
    cases e0
    cases e1
    cases e2
    cases e3
    cases e4
    cases e5
    exact ⟨a0, a1_0, a1_1, a1_2, a2, a3, a4, a5, rfl, w0, b1_0, b1_1, b1_2, bounds_u8 w2, bounds_u32 w3, bounds_u64 w4, w5⟩
/-- The cells of a Member. -/
def IsMember (cs : List Value) : Prop := ∃ (state : Int) (inc : Int), cs = [.int .u8 state, .int .u32 inc] ∧ (0 ≤ state ∧ state ≤ 255) ∧ (0 ≤ inc ∧ inc ≤ 4294967295)
set_option maxRecDepth 100000 in
theorem Member_cells {fuel : Nat} {cs : List Value} {x : DataW H × List MemPlace} (h : DataW.trod enc Try.prog w base spare held fuel 70 cs = some x) (hw : Sz Try.prog 70 x.1) : IsMember cs := by
  obtain ⟨hl, n, hf⟩ := fields_sz Try.underlying70 h hw
  rw [cells_Member] at hl
  match cs, hl with
  | [c0, c1], _ =>
    obtain ⟨y0, h0, s0⟩ := hf 0 _ rfl
    replace h0 : DataW.trod enc Try.prog w base spare held n 5 (List.take (Try.prog.cellsOf 5) (List.drop 0 [c0, c1])) = some y0 := h0
    rw [cells_u8] at h0
    replace h0 : DataW.trod enc Try.prog w base spare held n 5 [c0] = some y0 := h0
    obtain ⟨a0, e0, _, w0⟩ := DataW.trod_int Try.underlying5 h0
    obtain ⟨y1, h1, s1⟩ := hf 1 _ rfl
    replace h1 : DataW.trod enc Try.prog w base spare held n 22 (List.take (Try.prog.cellsOf 22) (List.drop 1 [c0, c1])) = some y1 := h1
    rw [cells_u32] at h1
    replace h1 : DataW.trod enc Try.prog w base spare held n 22 [c1] = some y1 := h1
    obtain ⟨a1, e1, _, w1⟩ := DataW.trod_int Try.underlying22 h1
    cases e0
    cases e1
    exact ⟨a0, a1, rfl, bounds_u8 w0, bounds_u32 w1⟩
/-- The cells of a News. -/
def IsNews (cs : List Value) : Prop := ∃ (node : Int) (m_state : Int) (m_inc : Int), cs = [.int .u8 node, .int .u8 m_state, .int .u32 m_inc] ∧ (0 ≤ node ∧ node ≤ 255) ∧ (0 ≤ m_state ∧ m_state ≤ 255) ∧ (0 ≤ m_inc ∧ m_inc ≤ 4294967295)
set_option maxRecDepth 100000 in
theorem News_cells {fuel : Nat} {cs : List Value} {x : DataW H × List MemPlace} (h : DataW.trod enc Try.prog w base spare held fuel 72 cs = some x) (hw : Sz Try.prog 72 x.1) : IsNews cs := by
  obtain ⟨hl, n, hf⟩ := fields_sz Try.underlying72 h hw
  rw [cells_News] at hl
  match cs, hl with
  | [c0, c1, c2], _ =>
    obtain ⟨y0, h0, s0⟩ := hf 0 _ rfl
    replace h0 : DataW.trod enc Try.prog w base spare held n 5 (List.take (Try.prog.cellsOf 5) (List.drop 0 [c0, c1, c2])) = some y0 := h0
    rw [cells_u8] at h0
    replace h0 : DataW.trod enc Try.prog w base spare held n 5 [c0] = some y0 := h0
    obtain ⟨a0, e0, _, w0⟩ := DataW.trod_int Try.underlying5 h0
    obtain ⟨y1, h1, s1⟩ := hf 1 _ rfl
    replace h1 : DataW.trod enc Try.prog w base spare held n 70 (List.take (Try.prog.cellsOf 70) (List.drop 1 [c0, c1, c2])) = some y1 := h1
    rw [cells_Member] at h1
    replace h1 : DataW.trod enc Try.prog w base spare held n 70 [c1, c2] = some y1 := h1
    obtain ⟨a1_0, a1_1, e1, b1_0, b1_1⟩ := Member_cells h1 s1
    cases e0
    cases e1
    exact ⟨a0, a1_0, a1_1, rfl, bounds_u8 w0, b1_0, b1_1⟩
/-- The cells of a Seen. -/
def IsSeen (cs : List Value) : Prop := ∃ (key : ByteArray) (s_p : Int) (s_l : Int) (s_n : Int) (kind : Int), cs = [.string key, .int .u64 s_p, .int .u32 s_l, .int .u8 s_n, .int .u8 kind] ∧ (key.size ≤ 140737488351232) ∧ (0 ≤ s_p ∧ s_p ≤ 18446744073709551615) ∧ (0 ≤ s_l ∧ s_l ≤ 4294967295) ∧ (0 ≤ s_n ∧ s_n ≤ 255) ∧ (0 ≤ kind ∧ kind ≤ 255)
set_option maxRecDepth 100000 in
theorem Seen_cells {fuel : Nat} {cs : List Value} {x : DataW H × List MemPlace} (h : DataW.trod enc Try.prog w base spare held fuel 56 cs = some x) (hw : Sz Try.prog 56 x.1) : IsSeen cs := by
  obtain ⟨hl, n, hf⟩ := fields_sz Try.underlying56 h hw
  rw [cells_Seen] at hl
  match cs, hl with
  | [c0, c1, c2, c3, c4], _ =>
    obtain ⟨y0, h0, s0⟩ := hf 0 _ rfl
    replace h0 : DataW.trod enc Try.prog w base spare held n 9 (List.take (Try.prog.cellsOf 9) (List.drop 0 [c0, c1, c2, c3, c4])) = some y0 := h0
    rw [cells_string] at h0
    replace h0 : DataW.trod enc Try.prog w base spare held n 9 [c0] = some y0 := h0
    obtain ⟨a0, e0, w0⟩ := str_sz Try.underlying9 h0 s0
    obtain ⟨y1, h1, s1⟩ := hf 1 _ rfl
    replace h1 : DataW.trod enc Try.prog w base spare held n 52 (List.take (Try.prog.cellsOf 52) (List.drop 1 [c0, c1, c2, c3, c4])) = some y1 := h1
    rw [cells_Stamp] at h1
    replace h1 : DataW.trod enc Try.prog w base spare held n 52 [c1, c2, c3] = some y1 := h1
    obtain ⟨a1_0, a1_1, a1_2, e1, b1_0, b1_1, b1_2⟩ := Stamp_cells h1 s1
    obtain ⟨y2, h2, s2⟩ := hf 2 _ rfl
    replace h2 : DataW.trod enc Try.prog w base spare held n 5 (List.take (Try.prog.cellsOf 5) (List.drop 4 [c0, c1, c2, c3, c4])) = some y2 := h2
    rw [cells_u8] at h2
    replace h2 : DataW.trod enc Try.prog w base spare held n 5 [c4] = some y2 := h2
    obtain ⟨a2, e2, _, w2⟩ := DataW.trod_int Try.underlying5 h2
    cases e0
    cases e1
    cases e2
    exact ⟨a0, a1_0, a1_1, a1_2, a2, rfl, w0, b1_0, b1_1, b1_2, bounds_u8 w2⟩
def Isstring (cs : List Value) : Prop := ∃ s : ByteArray, cs = [.string s] ∧ s.size ≤ 140737488351232
set_option maxRecDepth 100000 in
theorem string_cells {fuel : Nat} {cs : List Value} {x : DataW H × List MemPlace} (h : DataW.trod enc Try.prog w base spare held fuel 9 cs = some x) (hw : Sz Try.prog 9 x.1) : Isstring cs := str_sz Try.underlying9 h hw
def Isu64 (cs : List Value) : Prop := ∃ n : Int, cs = [.int .u64 n] ∧ 0 ≤ n ∧ n ≤ 18446744073709551615
set_option maxRecDepth 100000 in
theorem u64_cells {fuel : Nat} {cs : List Value} {x : DataW H × List MemPlace} (h : DataW.trod enc Try.prog w base spare held fuel 50 cs = some x) (hw : Sz Try.prog 50 x.1) : Isu64 cs := by
  obtain ⟨a, e, _, w0⟩ := DataW.trod_int Try.underlying50 h
  exact ⟨a, e, bounds_u64 w0⟩
end
/-- A row of cells, each of a kind, read as a list. -/
theorem list_ofN {α : Type} (d : Kd α) (P : α → Prop) (R : List Value → Prop) (n1 : Nat) (hsz : d.sz = n1) {w : World} (hR : ∀ cs, R cs → ∃ x, d.K w x cs ∧ P x) {b off : Nat} :
    ∀ n : Nat, (∀ i, i < n → ∃ cs, R cs ∧ cs.length = n1 ∧ ∀ j, j < n1 → w.cell? ⟨b, off + (i * n1 + j), none⟩ = cs[j]?) →
    ∃ l : List α, l.length = n ∧ (∀ x, x ∈ l → P x) ∧ ∀ (j : Nat) (p : α), l[j]? = some p → ∃ c : List Value, c.length = d.sz ∧ d.K w p c ∧ ∀ (i : Nat) (u : Value), c[i]? = some u → w.cell? (Addr.add ⟨b, off, none⟩ (j * d.sz + i)) = some u := by
  intro n
  induction n with
  | zero => intro _; exact ⟨[], rfl, fun x h => absurd h (by simp), fun j p h => by simp at h⟩
  | succ n ih =>
    intro h
    obtain ⟨l, hl, hP, hr⟩ := ih (fun i hi => h i (by omega))
    obtain ⟨cs, hc, hlen, hcell⟩ := h n (by omega)
    obtain ⟨x, hx, hp⟩ := hR cs hc
    refine ⟨l ++ [x], by rw [List.length_append, hl]; rfl, fun y hy => ?_, fun j p hjp => ?_⟩
    · rcases List.mem_append.1 hy with h1 | h1
      · exact hP y h1
      · rw [List.mem_singleton] at h1; rw [h1]; exact hp
    · rcases Nat.lt_or_ge j l.length with hj | hj
      · rw [List.getElem?_append_left hj] at hjp
        exact hr j p hjp
      · rw [List.getElem?_append_right hj] at hjp
        obtain ⟨rfl, rfl⟩ : j = n ∧ x = p := by
          rcases Nat.lt_or_ge (j - l.length) 1 with h1 | h1
          · have e : j - l.length = 0 := by omega
            rw [e] at hjp
            exact ⟨by omega, by simpa using hjp⟩
          · rw [List.getElem?_eq_none (by simpa using h1)] at hjp; cases hjp
        refine ⟨cs, by rw [hsz]; exact hlen, hx, fun i u hu => ?_⟩
        have hi : i < n1 := by
          rcases Nat.lt_or_ge i n1 with h1 | h1
          · exact h1
          · rw [List.getElem?_eq_none (by rw [hlen]; exact h1)] at hu; cases hu
        have h2 := hcell i hi
        rw [hu] at h2
        rw [hsz, Go.WideShapes.add_plain]
        exact h2
theorem C_ofN {α : Type} (d : Kd α) (P : α → Prop) (R : List Value → Prop) (n1 : Nat) (hsz : d.sz = n1) {w : World} (hR : ∀ cs, R cs → ∃ x, d.K w x cs ∧ P x) {A : Option Addr} {len cap : Nat}
    (r : len ≤ cap ∧ cap ≤ maxLen ∧ (0 < len → ∃ b off, A = some ⟨b, off, none⟩ ∧ b < w.heap.size ∧ ∀ i, i < len → ∃ cs, R cs ∧ cs.length = n1 ∧ ∀ j, j < n1 → w.cell? ⟨b, off + (i * n1 + j), none⟩ = cs[j]?)) :
    ∃ l : List α, l.length = len ∧ (∀ x, x ∈ l → P x) ∧ d.C w A l.length l ∧ l.length ≤ cap := by
  obtain ⟨hlc, hcm, hrow⟩ := r
  unfold maxLen at hcm
  by_cases h0 : len = 0
  · exact ⟨[], h0.symm, fun x h => absurd h (by simp), ⟨rfl, by simp, fun h => absurd h (by simp)⟩, by simp⟩
  · obtain ⟨b, off, hA, hb, hc⟩ := hrow (by omega)
    obtain ⟨l, hl, hP, hr⟩ := list_ofN d P R n1 hsz hR len hc
    exact ⟨l, hl, hP, ⟨rfl, by omega, fun _ => ⟨_, hA, hr⟩⟩, by omega⟩
section
variable {H : Type} {enc : TypeId × Value → H} {w : World} {base : Nat} {spare : Nat → Bool} {held : Bool}
set_option maxRecDepth 100000 in
theorem msg_value {r : Reach} {b0 : Nat} {v : Value} {d : DataW H} {p : List MemPlace} (hv : Value.okWide Try.prog w r b0 29 v) (h : DataW.Trod enc Try.prog w base spare held 29 v d p) (hw : Sz Try.prog 29 d) :
    ∃ (m : Msg.M) (A7 : Option Addr) (g7 : Nat) (A8 : Option Addr) (g8 : Nat) (A9 : Option Addr) (g9 : Nat) (A10 : Option Addr) (g10 : Nat) (A11 : Option Addr) (g11 : Nat), v = .agg #[.int .u8 m.kind, .int .u8 m.fr, .int .u8 m.dst, .int .u32 m.id, .int .u8 m.tg, .int .u8 m.rg, .bool m.flag, .slice A7 m.news.length g7, .slice A8 m.keys.length g8, .slice A9 m.recs.length g9, .slice A10 m.seen.length g10, .slice A11 m.digs.length g11] ∧ Msg.OkM m ∧ Msg.HasM m A7 g7 A8 g8 A9 g9 A10 g10 A11 g11 w := by
  obtain ⟨cs, rfl, hsz⟩ := okWide_struct Try.underlying29 hv
  obtain ⟨fuel, hf0⟩ := h
  have hf1 : DataW.trod enc Try.prog w base spare held fuel 29 cs.toList = some (d, p) := hf0
  obtain ⟨l'⟩ := cs
  have hf2 : DataW.trod enc Try.prog w base spare held fuel 29 l' = some (d, p) := hf1
  clear hf0 hf1 hsz hv
  obtain ⟨hl, n, hf⟩ := fields_sz Try.underlying29 hf2 hw
  rw [cells_Msg] at hl
  match l', hl with
  | [c0, c1, c2, c3, c4, c5, c6, c7, c8, c9, c10, c11], _ =>
    clear hf2
    obtain ⟨y0, h0, s0⟩ := hf 0 _ rfl
    replace h0 : DataW.trod enc Try.prog w base spare held n 5 (List.take (Try.prog.cellsOf 5) (List.drop 0 [c0, c1, c2, c3, c4, c5, c6, c7, c8, c9, c10, c11])) = some y0 := h0
    rw [cells_u8] at h0
    replace h0 : DataW.trod enc Try.prog w base spare held n 5 [c0] = some y0 := h0
    obtain ⟨a0, e0, _, w0⟩ := DataW.trod_int Try.underlying5 h0
    obtain ⟨y1, h1, s1⟩ := hf 1 _ rfl
    replace h1 : DataW.trod enc Try.prog w base spare held n 5 (List.take (Try.prog.cellsOf 5) (List.drop 1 [c0, c1, c2, c3, c4, c5, c6, c7, c8, c9, c10, c11])) = some y1 := h1
    rw [cells_u8] at h1
    replace h1 : DataW.trod enc Try.prog w base spare held n 5 [c1] = some y1 := h1
    obtain ⟨a1, e1, _, w1⟩ := DataW.trod_int Try.underlying5 h1
    obtain ⟨y2, h2, s2⟩ := hf 2 _ rfl
    replace h2 : DataW.trod enc Try.prog w base spare held n 5 (List.take (Try.prog.cellsOf 5) (List.drop 2 [c0, c1, c2, c3, c4, c5, c6, c7, c8, c9, c10, c11])) = some y2 := h2
    rw [cells_u8] at h2
    replace h2 : DataW.trod enc Try.prog w base spare held n 5 [c2] = some y2 := h2
    obtain ⟨a2, e2, _, w2⟩ := DataW.trod_int Try.underlying5 h2
    obtain ⟨y3, h3, s3⟩ := hf 3 _ rfl
    replace h3 : DataW.trod enc Try.prog w base spare held n 22 (List.take (Try.prog.cellsOf 22) (List.drop 3 [c0, c1, c2, c3, c4, c5, c6, c7, c8, c9, c10, c11])) = some y3 := h3
    rw [cells_u32] at h3
    replace h3 : DataW.trod enc Try.prog w base spare held n 22 [c3] = some y3 := h3
    obtain ⟨a3, e3, _, w3⟩ := DataW.trod_int Try.underlying22 h3
    obtain ⟨y4, h4, s4⟩ := hf 4 _ rfl
    replace h4 : DataW.trod enc Try.prog w base spare held n 5 (List.take (Try.prog.cellsOf 5) (List.drop 4 [c0, c1, c2, c3, c4, c5, c6, c7, c8, c9, c10, c11])) = some y4 := h4
    rw [cells_u8] at h4
    replace h4 : DataW.trod enc Try.prog w base spare held n 5 [c4] = some y4 := h4
    obtain ⟨a4, e4, _, w4⟩ := DataW.trod_int Try.underlying5 h4
    obtain ⟨y5, h5, s5⟩ := hf 5 _ rfl
    replace h5 : DataW.trod enc Try.prog w base spare held n 5 (List.take (Try.prog.cellsOf 5) (List.drop 5 [c0, c1, c2, c3, c4, c5, c6, c7, c8, c9, c10, c11])) = some y5 := h5
    rw [cells_u8] at h5
    replace h5 : DataW.trod enc Try.prog w base spare held n 5 [c5] = some y5 := h5
    obtain ⟨a5, e5, _, w5⟩ := DataW.trod_int Try.underlying5 h5
    obtain ⟨y6, h6, s6⟩ := hf 6 _ rfl
    replace h6 : DataW.trod enc Try.prog w base spare held n 4 (List.take (Try.prog.cellsOf 4) (List.drop 6 [c0, c1, c2, c3, c4, c5, c6, c7, c8, c9, c10, c11])) = some y6 := h6
    rw [cells_bool] at h6
    replace h6 : DataW.trod enc Try.prog w base spare held n 4 [c6] = some y6 := h6
    obtain ⟨a6, e6, _⟩ := DataW.trod_bool Try.underlying4 h6
    obtain ⟨y7, h7, s7⟩ := hf 7 _ rfl
    replace h7 : DataW.trod enc Try.prog w base spare held n 23 (List.take (Try.prog.cellsOf 23) (List.drop 7 [c0, c1, c2, c3, c4, c5, c6, c7, c8, c9, c10, c11])) = some y7 := h7
    rw [cells_s7] at h7
    replace h7 : DataW.trod enc Try.prog w base spare held n 23 [c7] = some y7 := h7
    obtain ⟨a7, n7, g7, e7, t7, r7⟩ := rows_sz (R := IsNews) Try.underlying23 cells_News (by decide) (by decide) (fun _ _ _ h s => News_cells h s) h7 s7
    obtain ⟨y8, h8, s8⟩ := hf 8 _ rfl
    replace h8 : DataW.trod enc Try.prog w base spare held n 24 (List.take (Try.prog.cellsOf 24) (List.drop 8 [c0, c1, c2, c3, c4, c5, c6, c7, c8, c9, c10, c11])) = some y8 := h8
    rw [cells_s8] at h8
    replace h8 : DataW.trod enc Try.prog w base spare held n 24 [c8] = some y8 := h8
    obtain ⟨a8, n8, g8, e8, t8, r8⟩ := rows_sz (R := Isstring) Try.underlying24 cells_string (by decide) (by decide) (fun _ _ _ h s => string_cells h s) h8 s8
    obtain ⟨y9, h9, s9⟩ := hf 9 _ rfl
    replace h9 : DataW.trod enc Try.prog w base spare held n 25 (List.take (Try.prog.cellsOf 25) (List.drop 9 [c0, c1, c2, c3, c4, c5, c6, c7, c8, c9, c10, c11])) = some y9 := h9
    rw [cells_s9] at h9
    replace h9 : DataW.trod enc Try.prog w base spare held n 25 [c9] = some y9 := h9
    obtain ⟨a9, n9, g9, e9, t9, r9⟩ := rows_sz (R := IsRec) Try.underlying25 cells_Rec (by decide) (by decide) (fun _ _ _ h s => Rec_cells h s) h9 s9
    obtain ⟨y10, h10, s10⟩ := hf 10 _ rfl
    replace h10 : DataW.trod enc Try.prog w base spare held n 26 (List.take (Try.prog.cellsOf 26) (List.drop 10 [c0, c1, c2, c3, c4, c5, c6, c7, c8, c9, c10, c11])) = some y10 := h10
    rw [cells_s10] at h10
    replace h10 : DataW.trod enc Try.prog w base spare held n 26 [c10] = some y10 := h10
    obtain ⟨a10, n10, g10, e10, t10, r10⟩ := rows_sz (R := IsSeen) Try.underlying26 cells_Seen (by decide) (by decide) (fun _ _ _ h s => Seen_cells h s) h10 s10
    obtain ⟨y11, h11, s11⟩ := hf 11 _ rfl
    replace h11 : DataW.trod enc Try.prog w base spare held n 27 (List.take (Try.prog.cellsOf 27) (List.drop 11 [c0, c1, c2, c3, c4, c5, c6, c7, c8, c9, c10, c11])) = some y11 := h11
    rw [cells_s11] at h11
    replace h11 : DataW.trod enc Try.prog w base spare held n 27 [c11] = some y11 := h11
    obtain ⟨a11, n11, g11, e11, t11, r11⟩ := rows_sz (R := Isu64) Try.underlying27 cells_u64 (by decide) (by decide) (fun _ _ _ h s => u64_cells h s) h11 s11
    cases e0
    cases e1
    cases e2
    cases e3
    cases e4
    cases e5
    cases e6
    cases e7
    cases e8
    cases e9
    cases e10
    cases e11
    obtain ⟨l7, e7, p7, c7, k7⟩ := C_ofN PMsg.k72 (fun x => Msg.isB x.f0 255 ∧ Msg.isB x.f1.f0 255 ∧ Msg.isB x.f1.f1 4294967295) IsNews 3 rfl (fun cs h => by
      obtain ⟨node, st, inc, rfl, h0, h1, h2⟩ := h
      exact ⟨⟨node, ⟨st, inc⟩⟩, PMsg.k72_mk w ⟨node, ⟨st, inc⟩⟩, h0, h1, h2⟩) r7
    obtain ⟨l8, e8, p8, c8, k8⟩ := C_ofN Kd.string (fun x => x.size ≤ 140737488351232) Isstring 1 rfl (fun cs h => by
      obtain ⟨s, rfl, h0⟩ := h
      exact ⟨s, rfl, h0⟩) r8
    obtain ⟨l9, e9, p9, c9, k9⟩ := C_ofN PMsg.k54 (fun x => (x.f0.size ≤ 140737488351232 ∧ x.f5.size ≤ 140737488351232) ∧ (0 ≤ x.f1.f0 ∧ x.f1.f0 ≤ 18446744073709551615) ∧ (0 ≤ x.f1.f1 ∧ x.f1.f1 ≤ 4294967295) ∧ (0 ≤ x.f1.f2 ∧ x.f1.f2 ≤ 255) ∧ (0 ≤ x.f2 ∧ x.f2 ≤ 255) ∧ (0 ≤ x.f3 ∧ x.f3 ≤ 4294967295) ∧ (0 ≤ x.f4 ∧ x.f4 ≤ 18446744073709551615)) IsRec 8 rfl (fun cs h => by
      obtain ⟨key, p, l, n, kind, flags, expiry, body, rfl, hs, hp, hl, hn, hk, hf, he, hb⟩ := h
      exact ⟨⟨key, ⟨p, l, n⟩, kind, flags, expiry, body⟩, PMsg.k54_mk w ⟨key, ⟨p, l, n⟩, kind, flags, expiry, body⟩, ⟨hs, hb⟩, hp, hl, hn, hk, hf, he⟩) r9
    obtain ⟨l10, e10, p10, c10, k10⟩ := C_ofN PMsg.k56 (fun x => x.f0.size ≤ 140737488351232 ∧ Msg.isB x.f1.f0 18446744073709551615 ∧ Msg.isB x.f1.f1 4294967295 ∧ Msg.isB x.f1.f2 255 ∧ Msg.isB x.f2 255) IsSeen 5 rfl (fun cs h => by
      obtain ⟨key, p, l, n, kind, rfl, hs, hp, hl, hn, hk⟩ := h
      exact ⟨⟨key, ⟨p, l, n⟩, kind⟩, PMsg.k56_mk w ⟨key, ⟨p, l, n⟩, kind⟩, hs, hp, hl, hn, hk⟩) r10
    obtain ⟨l11, e11, p11, c11, k11⟩ := C_ofN (Kd.int .u64) (fun x => Msg.isB x 18446744073709551615) Isu64 1 rfl (fun cs h => by
      obtain ⟨n, rfl, h0, h1⟩ := h
      exact ⟨n, rfl, h0, h1⟩) r11
    subst e7 e8 e9 e10 e11
    exact ⟨⟨a0, a1, a2, a3, a4, a5, a6, l7, l8, l9, l10, l11⟩, a7, g7, a8, g8, a9, g9, a10, g10, a11, g11, rfl,
      ⟨bounds_u8 w0, bounds_u8 w1, bounds_u8 w2, bounds_u32 w3, bounds_u8 w4, bounds_u8 w5, t7, t8, t9, t10, t11, p7, p8, p9, p10, p11⟩, ⟨c7, k7, c8, k8, c9, k9, c10, k10, c11, k11⟩⟩
end
end Go.Proofs.Ytdjompbhlkgmbaa.Opener
end

/- What the row needs, laid together out of MsgPackF, MsgPack, MsgFix, BRow, MsgQ8, MsgRef (own texts and texts printed for this seat; wip/tools/group.py). -/
import Derived.Test.YtdjompbhlkgmbaaGB1
import Derived.Test.YtdjompbhlkgmbaaGB2
import Derived.Test.YtdjompbhlkgmbaaGB3
import Derived.Test.YtdjompbhlkgmbaaGB7
import Derived.Test.YtdjompbhlkgmbaaGB8
import Derived.Test.YtdjompbhlkgmbaaGB9
import Derived.Lib.FrozenHead2
import Derived.Laws.BytesArg
section
/- Pack where the message may be (own text; written by wip/tools/gen_msgpack.py). -/
namespace Go.Proofs.Ytdjompbhlkgmbaa.Msg
open Go.RowKit Go.Proofs.Ytdjompbhlkgmbaa.Mem Go.Proofs.YtdjompbhlkgmbaaW.PrintWords Go.Proofs.YtdjompbhlkgmbaaW.PrintLast Go.Proofs.YtdjompbhlkgmbaaW.PrintMore Go.Proofs.Ytdjompbhlkgmbaa.PMsg
open Go.Proofs.Ytdjompbhlkgmbaa.Num (putB putE textB)
set_option linter.unusedVariables false
set_option linter.unusedSimpArgs false
set_option maxRecDepth 100000 in
set_option maxHeartbeats 40000000 in
theorem pack_false (m : M) (A7 : Option Addr) (g7 : Nat) (A8 : Option Addr) (g8 : Nat) (A9 : Option Addr) (g9 : Nat) (A10 : Option Addr) (g10 : Nat) (A11 : Option Addr) (g11 : Nat) (b c tb : Nat) (w : World) (hm : HasM m A7 g7 A8 g8 A9 g9 A10 g10 A11 g11 w) (hs : SmM m) (hc : MCod w b c tb) (hy : mayM m = true) (hf : m.flag = false) :
    Calls Try.prog 10 #[.pointer (some ⟨b, 0, none⟩), .agg #[.int .u8 m.kind, .int .u8 m.fr, .int .u8 m.dst, .int .u32 m.id, .int .u8 m.tg, .int .u8 m.rg, .bool m.flag, .slice A7 m.news.length g7, .slice A8 m.keys.length g8, .slice A9 m.recs.length g9, .slice A10 m.seen.length g10, .slice A11 m.digs.length g11]] w fun e w' => e = .returned (.tuple #[.string (Frame.encS m.kind.toNat m.fr.toNat m.dst.toNat (bodyB m)), .int .i64 (Frame.encE m.kind.toNat m.fr.toNat m.dst.toNat (bodyB m))]) ∧ Sum.IsTab w' tb ∧ Chg (fun x => x = tb) w w' := by
  have hmay := fun (W : World) (h : Below w.heap.size w W) => may_c m A7 g7 A8 g8 A9 g9 A10 g10 A11 g11 W (hm.below h) hs
  rw [hy, hf] at hmay
  rw [hf]
  have HS := Lib.hid hs
  have HC := Lib.hid hc
  have HF := Lib.hid hf
  have HE := Lib.hid (fun (W : World) (h : MCod W b c tb) => packEnc m b c tb W h hs)
  have HR7 := Lib.hid hm.r7
  have hl7 := hm.l7
  have hb7 := hs.n1
  have HL7 := Lib.hid (news_len hs)
  have HR8 := Lib.hid hm.r8
  have hl8 := hm.l8
  have hb8 := hs.n2
  have HL8 := Lib.hid (keys_len hs)
  have HR9 := Lib.hid hm.r9
  have hl9 := hm.l9
  have hb9 := hs.n3
  have HL9 := Lib.hid (recs_len hs)
  have HR10 := Lib.hid hm.r10
  have hl10 := hm.l10
  have hb10 := hs.n4
  have HL10 := Lib.hid (seen_len hs)
  have HR11 := Lib.hid hm.r11
  have hl11 := hm.l11
  have hb11 := hs.n5
  have HL11 := Lib.hid (digs_len hs)
  have k0 := hs.kind; have k3 := hs.id; have k4 := hs.tg; have k5 := hs.rg
  unfold isB at k0 k3 k4 k5
  have v3 : IntKind.u64.wrap m.id = m.id := IntWalk.u64_in _ ⟨by omega, by omega⟩
  have v4 : IntKind.u64.wrap m.tg = m.tg := IntWalk.u64_in _ ⟨by omega, by omega⟩
  have v5 : IntKind.u64.wrap m.rg = m.rg := IntWalk.u64_in _ ⟨by omega, by omega⟩
  have K0 := Lib.hid (And.intro k3.1 (And.intro k4.1 k5.1))
  clear hs hm hc hf k0 k3 k4 k5
  obtain ⟨n1, hn7⟩ : ∃ n, n = m.news.length := ⟨_, rfl⟩
  rw [← hn7] at hmay hl7 hb7 ⊢
  have HN7 := Lib.hid hn7
  clear hn7
  have w7 : IntKind.u64.wrap (n1 : Int) = (n1 : Int) := IntWalk.u64_in _ ⟨by omega, by omega⟩
  obtain ⟨n2, hn8⟩ : ∃ n, n = m.keys.length := ⟨_, rfl⟩
  rw [← hn8] at hmay hl8 hb8 ⊢
  have HN8 := Lib.hid hn8
  clear hn8
  have w8 : IntKind.u64.wrap (n2 : Int) = (n2 : Int) := IntWalk.u64_in _ ⟨by omega, by omega⟩
  obtain ⟨n3, hn9⟩ : ∃ n, n = m.recs.length := ⟨_, rfl⟩
  rw [← hn9] at hmay hl9 hb9 ⊢
  have HN9 := Lib.hid hn9
  clear hn9
  have w9 : IntKind.u64.wrap (n3 : Int) = (n3 : Int) := IntWalk.u64_in _ ⟨by omega, by omega⟩
  obtain ⟨n4, hn10⟩ : ∃ n, n = m.seen.length := ⟨_, rfl⟩
  rw [← hn10] at hmay hl10 hb10 ⊢
  have HN10 := Lib.hid hn10
  clear hn10
  have w10 : IntKind.u64.wrap (n4 : Int) = (n4 : Int) := IntWalk.u64_in _ ⟨by omega, by omega⟩
  obtain ⟨n5, hn11⟩ : ∃ n, n = m.digs.length := ⟨_, rfl⟩
  rw [← hn11] at hmay hl11 hb11 ⊢
  have HN11 := Lib.hid hn11
  clear hn11
  have w11 : IntKind.u64.wrap (n5 : Int) = (n5 : Int) := IntWalk.u64_in _ ⟨by omega, by omega⟩
  have MY := Lib.hid hmay
  clear hmay
  have HG7 := Lib.hid hl7
  have HB7 := Lib.hid hb7
  have HG8 := Lib.hid hl8
  have HB8 := Lib.hid hb8
  have HG9 := Lib.hid hl9
  have HB9 := Lib.hid hb9
  have HG10 := Lib.hid hl10
  have HB10 := Lib.hid hb10
  have HG11 := Lib.hid hl11
  have HB11 := Lib.hid hb11
  clear hl7 hb7 hl8 hb8 hl9 hb9 hl10 hb10 hl11 hb11
  go_enter Try.func10, Try.ntmps10
  go_upto_region 1 with (fail)
  have AZ := Lib.hid (blk_new w (.cells #[.int .u8 m.kind, .int .u8 m.fr, .int .u8 m.dst, .int .u32 m.id, .int .u8 m.tg, .int .u8 m.rg, .bool false, .slice A7 n1 g7, .slice A8 n2 g8, .slice A9 n3 g9, .slice A10 n4 g10, .slice A11 n5 g11] 29))
  have HB := Lib.hid (below_alloc (Below.refl w.heap.size w) (.cells #[.int .u8 m.kind, .int .u8 m.fr, .int .u8 m.dst, .int .u32 m.id, .int .u8 m.tg, .int .u8 m.rg, .bool false, .slice A7 n1 g7, .slice A8 n2 g8, .slice A9 n3 g9, .slice A10 n4 g10, .slice A11 n5 g11] 29))
  generalize w.alloc (.cells #[.int .u8 m.kind, .int .u8 m.fr, .int .u8 m.dst, .int .u32 m.id, .int .u8 m.tg, .int .u8 m.rg, .bool false, .slice A7 n1 g7, .slice A8 n2 g8, .slice A9 n3 g9, .slice A10 n4 g10, .slice A11 n5 g11] 29) = w1 at *
  have ez0 : w1.cell? ⟨w.heap.size, 0, none⟩ = some (.int .u8 m.kind) := (blk_cell AZ.out 0).trans rfl
  have ez1 : w1.cell? ⟨w.heap.size, 1, none⟩ = some (.int .u8 m.fr) := (blk_cell AZ.out 1).trans rfl
  have ez2 : w1.cell? ⟨w.heap.size, 2, none⟩ = some (.int .u8 m.dst) := (blk_cell AZ.out 2).trans rfl
  have ez3 : w1.cell? ⟨w.heap.size, 3, none⟩ = some (.int .u32 m.id) := (blk_cell AZ.out 3).trans rfl
  have ez4 : w1.cell? ⟨w.heap.size, 4, none⟩ = some (.int .u8 m.tg) := (blk_cell AZ.out 4).trans rfl
  have ez5 : w1.cell? ⟨w.heap.size, 5, none⟩ = some (.int .u8 m.rg) := (blk_cell AZ.out 5).trans rfl
  have ez6 : w1.cell? ⟨w.heap.size, 6, none⟩ = some (.bool false) := (blk_cell AZ.out 6).trans rfl
  have ez7 : w1.cell? ⟨w.heap.size, 7, none⟩ = some (.slice A7 n1 g7) := (blk_cell AZ.out 7).trans rfl
  have ez8 : w1.cell? ⟨w.heap.size, 8, none⟩ = some (.slice A8 n2 g8) := (blk_cell AZ.out 8).trans rfl
  have ez9 : w1.cell? ⟨w.heap.size, 9, none⟩ = some (.slice A9 n3 g9) := (blk_cell AZ.out 9).trans rfl
  have ez10 : w1.cell? ⟨w.heap.size, 10, none⟩ = some (.slice A10 n4 g10) := (blk_cell AZ.out 10).trans rfl
  have ez11 : w1.cell? ⟨w.heap.size, 11, none⟩ = some (.slice A11 n5 g11) := (blk_cell AZ.out 11).trans rfl
  go_upto_region 4 with (go_at_call 18; (with_reducible refine (MY.out _ HB.out).mono ?_); rintro e w2 ⟨rfl, hb2⟩; have HB2 := Lib.hid (below_step HB.out hb2); have AZ2 := Lib.hid (blk_below AZ.out hb2); clear hb2 HB AZ)
  clear MY
  have ST := Lib.hid (St.new HB2.out AZ2.out)
  clear HB2 AZ2
  generalize w2.heap.size = zb at *
  generalize w2.alloc (.cells #[.pointer none, .slice none 0 0] 67) = w3 at *
  have ey3 : w3.cell? ⟨w.heap.size, 3, none⟩ = some (.int .u32 m.id) := (blk_cell ST.out.az 3).trans rfl
  have ey4 : w3.cell? ⟨w.heap.size, 4, none⟩ = some (.int .u8 m.tg) := (blk_cell ST.out.az 4).trans rfl
  have ey5 : w3.cell? ⟨w.heap.size, 5, none⟩ = some (.int .u8 m.rg) := (blk_cell ST.out.az 5).trans rfl
  have ey6 : w3.cell? ⟨w.heap.size, 6, none⟩ = some (.bool false) := (blk_cell ST.out.az 6).trans rfl
  have ey7 : w3.cell? ⟨w.heap.size, 7, none⟩ = some (.slice A7 n1 g7) := (blk_cell ST.out.az 7).trans rfl
  have ey8 : w3.cell? ⟨w.heap.size, 8, none⟩ = some (.slice A8 n2 g8) := (blk_cell ST.out.az 8).trans rfl
  have ey9 : w3.cell? ⟨w.heap.size, 9, none⟩ = some (.slice A9 n3 g9) := (blk_cell ST.out.az 9).trans rfl
  have ey10 : w3.cell? ⟨w.heap.size, 10, none⟩ = some (.slice A10 n4 g10) := (blk_cell ST.out.az 10).trans rfl
  have ey11 : w3.cell? ⟨w.heap.size, 11, none⟩ = some (.slice A11 n5 g11) := (blk_cell ST.out.az 11).trans rfl
  go_wp2_with (go_at_call 19; (with_reducible refine (ST.out.num5 m.id m.tg m.rg 0 (n1 : Int) K0.out.1 K0.out.2.1 K0.out.2.2 (by decide) (Int.natCast_nonneg _) (by decide)).mono ?_); rintro e w4 ⟨rfl, st, -⟩; have ST1 := Lib.hid st; clear st ST; have ex7 : w4.cell? ⟨w.heap.size, 7, none⟩ = some (.slice A7 n1 g7) := (blk_cell ST1.out.az 7).trans rfl)
  obtain ⟨T0, hT0, hl0⟩ : ∃ T : List UInt8, T = [] ++ numsL [m.id, m.tg, m.rg, 0, (n1 : Int)] ∧ T.length ≤ 40 := ⟨_, rfl, numsL_len [m.id, m.tg, m.rg, 0, (n1 : Int)]⟩
  rw [← hT0] at ST1
  have HT0 := Lib.hid hT0
  have HTL0 := Lib.hid hl0
  clear hT0 hl0
  go_loopw [51] (fun v51 w' => ∃ (i : Nat) (y : Int), i ≤ n1 ∧ v51 = .int .i64 y ∧ Hid (y = (i : Int)) ∧ Hid (St w w.heap.size zb #[.int .u8 m.kind, .int .u8 m.fr, .int .u8 m.dst, .int .u32 m.id, .int .u8 m.tg, .int .u8 m.rg, .bool false, .slice A7 n1 g7, .slice A8 n2 g8, .slice A9 n3 g9, .slice A10 n4 g10, .slice A11 n5 g11] (T0 ++ (m.news.take i).flatMap newsI) w')) (fun v _ => n1 - (intOf v).toNat)
  case atStart => exact ⟨0, 0, Nat.zero_le _, rfl, Lib.hid rfl, Lib.hid (by rw [show (m.news.take 0).flatMap newsI = [] from rfl, List.append_nil]; exact ST1.out)⟩
  case round =>
    clear ST1
    obtain ⟨i, y, hi, rfl, HY, ST⟩ := hrel
    by_cases hlt : i < n1
    · have hil : i < m.news.length := by rw [← HN7.out]; exact hlt
      have p157 : 0 ≤ y := by have := HY.out; omega
      have q157 : y < (n1 : Int) := by have := HY.out; omega
      have vj : IntKind.i64.wrap (y + 1) = y + 1 := IntWalk.i64_in _ ⟨by omega, by have := HB7.out; omega⟩
      have HBB := Lib.hid ST.out.hb
      obtain ⟨ad, e157, hx0, hx1, hx2⟩ := at_T72 HR7.out y p157 (by rw [← HN7.out]; exact q157)
      cases e157
      replace hx0 := (HBB.out.cell (World.block_lt_of_cell? w _ hx0)).trans hx0
      replace hx1 := (HBB.out.cell (World.block_lt_of_cell? w _ hx1)).trans hx1
      replace hx2 := (HBB.out.cell (World.block_lt_of_cell? w _ hx2)).trans hx2
      have e0 : rd_T72 m.news y = m.news[i] := by
        rw [show y = (i : Int) from HY.out]
        unfold rd_T72
        rw [Int.toNat_natCast, List.getD_eq_getElem?_getD, List.getElem?_eq_getElem hil]
        rfl
      have HX := Lib.hid (show _ from HS.out.news _ (List.getElem_mem hil))
      have HI := Lib.hid (flat_snoc newsI m.news i hil)
      rw [← e0] at HX HI
      have HL := Lib.hid (show (T0 ++ (m.news.take i).flatMap newsI).length ≤ 900000 from by
        rw [List.length_append]
        have h1 := flat_take_len newsI m.news i
        have h2 := HL7.out
        have h3 := HTL0.out
        omega)
      clear e0 hil HBB
      generalize rd_T72 m.news y = x at *
      have hq0 : (0 ≤ y) = True := eq_true p157
      have hq1 : (y < (n1 : Int)) = True := eq_true q157
      go_upto_region 11 with (fail)
      have AX := Lib.hid (blk_new wr (.cells #[.int .u8 x.f0, .int .u8 x.f1.f0, .int .u32 x.f1.f1] 72))
      have hxb : wr.heap.size ≠ zb := by have := ST.out.lt; omega
      replace ST := Lib.hid (ST.out.alloc (.cells #[.int .u8 x.f0, .int .u8 x.f1.f0, .int .u32 x.f1.f1] 72))
      clear hx0 hx1 hx2
      generalize wr.alloc (.cells #[.int .u8 x.f0, .int .u8 x.f1.f0, .int .u32 x.f1.f1] 72) = w5 at *
      generalize wr.heap.size = zx at *
      have eq0 : w5.cell? ⟨zx, 0, none⟩ = some (.int .u8 x.f0) := (blk_cell AX.out 0).trans rfl
      have eq1 : w5.cell? ⟨zx, 1, none⟩ = some (.int .u8 x.f1.f0) := (blk_cell AX.out 1).trans rfl
      have eq2 : w5.cell? ⟨zx, 2, none⟩ = some (.int .u32 x.f1.f1) := (blk_cell AX.out 2).trans rfl
      have hr := HX.out
      unfold isB at hr
      have u0 : IntKind.u64.wrap x.f0 = x.f0 := IntWalk.u64_in _ ⟨by omega, by omega⟩
      have u1 : IntKind.u64.wrap x.f1.f0 = x.f1.f0 := IntWalk.u64_in _ ⟨by omega, by omega⟩
      have u2 : IntKind.u64.wrap x.f1.f1 = x.f1.f1 := IntWalk.u64_in _ ⟨by omega, by omega⟩
      have HZ := Lib.hid (And.intro hr.1.1 (And.intro hr.2.1.1 hr.2.2.1))
      clear hr
      go_wp2_with (go_at_call 19; (with_reducible refine (ST.out.num3 x.f0 x.f1.f0 x.f1.f1 HZ.out.1 HZ.out.2.1 HZ.out.2.2 (by have := HL.out; omega)).mono ?_); rintro e w6 ⟨rfl, st, -⟩; have ST6 := Lib.hid st; clear st ST)
      exact ⟨⟨i + 1, y + 1, by omega, rfl, Lib.hid (by have := HY.out; omega), Lib.hid (by rw [HI.out, ← List.append_assoc]; exact ST6.out)⟩, by have := HY.out; simp [intOf]; omega⟩
    · have hie : i = n1 := by omega
      have hq2 : decide (y < (n1 : Int)) = false := decide_eq_false (by have := HY.out; omega)
      rw [show m.news.take i = m.news from by rw [hie, HN7.out]; exact List.take_length] at ST
      clear hie hi hlt HY
      have ey8 : wr.cell? ⟨w.heap.size, 8, none⟩ = some (.slice A8 n2 g8) := (blk_cell ST.out.az 8).trans rfl
      go_wp2_with (go_at_call 19; (with_reducible refine (ST.out.num1 (n2 : Int) (Int.natCast_nonneg _) (by rw [List.length_append]; have h2 := HL7.out; have h3 := HTL0.out; omega)).mono ?_); rintro e w4 ⟨rfl, st, -⟩; have ST1 := Lib.hid st; clear st ST; have ex8 : w4.cell? ⟨w.heap.size, 8, none⟩ = some (.slice A8 n2 g8) := (blk_cell ST1.out.az 8).trans rfl)
      obtain ⟨T1, hT, hl⟩ : ∃ T : List UInt8, T = (T0 ++ m.news.flatMap newsI) ++ numsL [(n2 : Int)] ∧ T.length ≤ 120048 := ⟨_, rfl, by
        rw [List.length_append, List.length_append]
        have h1 := num1_len (n2 : Int)
        have h2 := HL7.out
        have h3 := HTL0.out
        omega⟩
      rw [← hT] at ST1
      have HT1 := Lib.hid hT
      have HTL1 := Lib.hid hl
      clear hT hl
      go_loopw [80] (fun v80 w' => ∃ (i : Nat) (y : Int), i ≤ n2 ∧ v80 = .int .i64 y ∧ Hid (y = (i : Int)) ∧ Hid (St w w.heap.size zb #[.int .u8 m.kind, .int .u8 m.fr, .int .u8 m.dst, .int .u32 m.id, .int .u8 m.tg, .int .u8 m.rg, .bool false, .slice A7 n1 g7, .slice A8 n2 g8, .slice A9 n3 g9, .slice A10 n4 g10, .slice A11 n5 g11] (T1 ++ (m.keys.take i).flatMap keysI) w')) (fun v _ => n2 - (intOf v).toNat)
      case atStart => exact ⟨0, 0, Nat.zero_le _, rfl, Lib.hid rfl, Lib.hid (by rw [show (m.keys.take 0).flatMap keysI = [] from rfl, List.append_nil]; exact ST1.out)⟩
      case round =>
        clear ST1
        obtain ⟨i, y, hi, rfl, HY, ST⟩ := hrel
        by_cases hlt : i < n2
        · have hil : i < m.keys.length := by rw [← HN8.out]; exact hlt
          have p157 : 0 ≤ y := by have := HY.out; omega
          have q157 : y < (n2 : Int) := by have := HY.out; omega
          have vj : IntKind.i64.wrap (y + 1) = y + 1 := IntWalk.i64_in _ ⟨by omega, by have := HB8.out; omega⟩
          have HBB := Lib.hid ST.out.hb
          obtain ⟨ad, e157, hx0⟩ := Kd.at_string HR8.out y p157 (by rw [← HN8.out]; exact q157)
          cases e157
          replace hx0 := (HBB.out.cell (World.block_lt_of_cell? w _ hx0)).trans hx0
          have e0 : rdOf ByteArray.empty m.keys y = m.keys[i] := by
            rw [show y = (i : Int) from HY.out]
            unfold rdOf
            rw [Int.toNat_natCast, List.getD_eq_getElem?_getD, List.getElem?_eq_getElem hil]
            rfl
          have HX := Lib.hid (show _ from HS.out.keys _ (List.getElem_mem hil))
          have HI := Lib.hid (flat_snoc keysI m.keys i hil)
          rw [← e0] at HX HI
          have HL := Lib.hid (show (T1 ++ (m.keys.take i).flatMap keysI).length ≤ 900000 from by
            rw [List.length_append]
            have h1 := flat_take_len keysI m.keys i
            have h2 := HL8.out
            have h3 := HTL1.out
            omega)
          clear e0 hil HBB
          generalize rdOf ByteArray.empty m.keys y = x at *
          have hq0 : (0 ≤ y) = True := eq_true p157
          have hq1 : (y < (n2 : Int)) = True := eq_true q157
          go_wp2_with (fail)
          refine start_ (n := 6) (S := fun w' => True) (ds := []) #[false, false, false, false, false, false] (by kernel_rfl) rfl rfl trivial (fun hHeld => ?_)
          replace ST := Lib.hid ST.out.drew
          generalize wr.drew = w3' at ST hHeld ⊢
          refine pure_ (i := 0) (N := some 84) (v := ?_) (a' := ?_) #[true, false, false, false, false, false] rfl rfl (by kernel_rfl) (fun _ _ _ h => h) (Or.inl ⟨by rfl, ?_⟩) ?_ ?_
          rotate_left
          · intro w'
            go_simp
            with_reducible rfl
          rotate_left
          · simp only [Act.put, List.setIfInBounds_toArray, List.set_cons_zero, List.set_cons_succ, i64_w, i32_w]
            rfl
          refine pure_ (i := 1) (N := some 85) (v := ?_) (a' := ?_) #[true, true, false, false, false, false] rfl rfl (by kernel_rfl) (fun _ _ _ h => h) (Or.inl ⟨by rfl, ?_⟩) ?_ ?_
          rotate_left
          · intro w'
            go_simp
            with_reducible rfl
          rotate_left
          · simp only [Act.put, List.setIfInBounds_toArray, List.set_cons_zero, List.set_cons_succ, i64_w, i32_w]
            rfl
          refine pure_ (i := 2) (N := some 86) (v := ?_) (a' := ?_) #[true, true, true, false, false, false] rfl rfl (by kernel_rfl) (fun _ _ _ h => h) (Or.inl ⟨by rfl, ?_⟩) ?_ ?_
          rotate_left
          · intro w'
            go_simp
            with_reducible rfl
          rotate_left
          · simp only [Act.put, List.setIfInBounds_toArray, List.set_cons_zero, List.set_cons_succ, i64_w, i32_w]
            rfl
          refine pure_ (i := 3) (N := some 87) (v := ?_) (a' := ?_) #[true, true, true, true, false, false] rfl rfl (by kernel_rfl) (fun _ _ _ h => h) (Or.inl ⟨by rfl, ?_⟩) ?_ ?_
          rotate_left
          · intro w'
            go_simp
            with_reducible rfl
          rotate_left
          · simp only [Act.put, List.setIfInBounds_toArray, List.set_cons_zero, List.set_cons_succ, i64_w, i32_w]
            rfl
          refine one_ (i := 4) (N := some 88) #[true, true, true, true, true, false] rfl rfl (by kernel_rfl) (by decide) (fun K hK => ?_)
          refine goes_ Try.func21 (by kernel_rfl) rfl #[.string x] (by rfl) rfl rfl (by simp only [List.map_toArray, List.map_cons, List.map_nil]; rfl) ?_
          with_reducible refine (Num.putText_any x _ (by have := HX.out; omega)).mono ?_
          rintro e w10 ⟨rfl, hb⟩
          refine ⟨_, rfl, ?_⟩
          have ST5 := Lib.hid (ST.out.below hb)
          clear hb ST
          refine hK.out _ _ trivial (fun hHeld => ?_)
          clear hK K
          refine norm_ (a' := ?_) ?_ ?_
          rotate_left
          · show Act.put _ (some 88) _ = _
            simp only [Act.put, List.setIfInBounds_toArray, List.set_cons_zero, List.set_cons_succ, i64_w, i32_w]
            rfl
          refine one_ (i := 5) (N := some 89) #[true, true, true, true, true, true] rfl rfl (by kernel_rfl) (by decide) (fun K hK => ?_)
          refine goes_ Try.func20 (by kernel_rfl) rfl #[.pointer (some ⟨zb, 0, none⟩), .string (textB x)] (by rfl) rfl rfl (by simp only [List.map_toArray, List.map_cons, List.map_nil]; rfl) ?_
          with_reducible refine (ST5.out.put (textB x) (by have := Rec.textB_size x; have := HX.out; omega) (by have := HL.out; omega)).mono ?_
          rintro e w11 ⟨rfl, st, hk⟩
          refine ⟨_, rfl, ?_⟩
          have ST6 := Lib.hid st
          clear st hk ST5
          refine hK.out _ _ trivial (fun hHeld => ?_)
          clear hK K
          refine norm_ (a' := ?_) ?_ ?_
          rotate_left
          · show Act.put _ (some 89) _ = _
            simp only [Act.put, List.setIfInBounds_toArray, List.set_cons_zero, List.set_cons_succ, i64_w, i32_w]
            rfl
          refine done_ (by kernel_rfl) ?_
          go_wp2_with (fail)
          exact ⟨⟨i + 1, y + 1, by omega, rfl, Lib.hid (by have := HY.out; omega), Lib.hid (by rw [HI.out, ← List.append_assoc]; exact ST6.out)⟩, by have := HY.out; simp [intOf]; omega⟩
        · have hie : i = n2 := by omega
          have hq2 : decide (y < (n2 : Int)) = false := decide_eq_false (by have := HY.out; omega)
          rw [show m.keys.take i = m.keys from by rw [hie, HN8.out]; exact List.take_length] at ST
          clear hie hi hlt HY
          have ey9 : wr.cell? ⟨w.heap.size, 9, none⟩ = some (.slice A9 n3 g9) := (blk_cell ST.out.az 9).trans rfl
          go_wp2_with (go_at_call 19; (with_reducible refine (ST.out.num1 (n3 : Int) (Int.natCast_nonneg _) (by rw [List.length_append]; have h2 := HL8.out; have h3 := HTL1.out; omega)).mono ?_); rintro e w4 ⟨rfl, st, -⟩; have ST1 := Lib.hid st; clear st ST; have ex9 : w4.cell? ⟨w.heap.size, 9, none⟩ = some (.slice A9 n3 g9) := (blk_cell ST1.out.az 9).trans rfl)
          obtain ⟨T2, hT, hl⟩ : ∃ T : List UInt8, T = (T1 ++ m.keys.flatMap keysI) ++ numsL [(n3 : Int)] ∧ T.length ≤ 169056 := ⟨_, rfl, by
            rw [List.length_append, List.length_append]
            have h1 := num1_len (n3 : Int)
            have h2 := HL8.out
            have h3 := HTL1.out
            omega⟩
          rw [← hT] at ST1
          have HT2 := Lib.hid hT
          have HTL2 := Lib.hid hl
          clear hT hl
          go_loopw [101] (fun v101 w' => ∃ (i : Nat) (y : Int), i ≤ n3 ∧ v101 = .int .i64 y ∧ Hid (y = (i : Int)) ∧ Hid (St w w.heap.size zb #[.int .u8 m.kind, .int .u8 m.fr, .int .u8 m.dst, .int .u32 m.id, .int .u8 m.tg, .int .u8 m.rg, .bool false, .slice A7 n1 g7, .slice A8 n2 g8, .slice A9 n3 g9, .slice A10 n4 g10, .slice A11 n5 g11] (T2 ++ (m.recs.take i).flatMap recsI) w')) (fun v _ => n3 - (intOf v).toNat)
          case atStart => exact ⟨0, 0, Nat.zero_le _, rfl, Lib.hid rfl, Lib.hid (by rw [show (m.recs.take 0).flatMap recsI = [] from rfl, List.append_nil]; exact ST1.out)⟩
          case round =>
            clear ST1
            obtain ⟨i, y, hi, rfl, HY, ST⟩ := hrel
            by_cases hlt : i < n3
            · have hil : i < m.recs.length := by rw [← HN9.out]; exact hlt
              have p157 : 0 ≤ y := by have := HY.out; omega
              have q157 : y < (n3 : Int) := by have := HY.out; omega
              have vj : IntKind.i64.wrap (y + 1) = y + 1 := IntWalk.i64_in _ ⟨by omega, by have := HB9.out; omega⟩
              have HBB := Lib.hid ST.out.hb
              obtain ⟨ad, e157, hx0, hx1, hx2, hx3, hx4, hx5, hx6, hx7⟩ := at_T54 HR9.out y p157 (by rw [← HN9.out]; exact q157)
              cases e157
              replace hx0 := (HBB.out.cell (World.block_lt_of_cell? w _ hx0)).trans hx0
              replace hx1 := (HBB.out.cell (World.block_lt_of_cell? w _ hx1)).trans hx1
              replace hx2 := (HBB.out.cell (World.block_lt_of_cell? w _ hx2)).trans hx2
              replace hx3 := (HBB.out.cell (World.block_lt_of_cell? w _ hx3)).trans hx3
              replace hx4 := (HBB.out.cell (World.block_lt_of_cell? w _ hx4)).trans hx4
              replace hx5 := (HBB.out.cell (World.block_lt_of_cell? w _ hx5)).trans hx5
              replace hx6 := (HBB.out.cell (World.block_lt_of_cell? w _ hx6)).trans hx6
              replace hx7 := (HBB.out.cell (World.block_lt_of_cell? w _ hx7)).trans hx7
              have e0 : rd_T54 m.recs y = m.recs[i] := by
                rw [show y = (i : Int) from HY.out]
                unfold rd_T54
                rw [Int.toNat_natCast, List.getD_eq_getElem?_getD, List.getElem?_eq_getElem hil]
                rfl
              have HX := Lib.hid (show _ from HS.out.recs _ (List.getElem_mem hil))
              have HI := Lib.hid (flat_snoc recsI m.recs i hil)
              rw [← e0] at HX HI
              have HL := Lib.hid (show (T2 ++ (m.recs.take i).flatMap recsI).length ≤ 900000 from by
                rw [List.length_append]
                have h1 := flat_take_len recsI m.recs i
                have h2 := HL9.out
                have h3 := HTL2.out
                omega)
              clear e0 hil HBB
              generalize rd_T54 m.recs y = x at *
              have hq0 : (0 ≤ y) = True := eq_true p157
              have hq1 : (y < (n3 : Int)) = True := eq_true q157
              go_upto_region 23 with (fail)
              have AX := Lib.hid (blk_new wr (.cells #[.string x.f0, .int .u64 x.f1.f0, .int .u32 x.f1.f1, .int .u8 x.f1.f2, .int .u8 x.f2, .int .u32 x.f3, .int .u64 x.f4, .string x.f5] 54))
              have hxb : wr.heap.size ≠ zb := by have := ST.out.lt; omega
              replace ST := Lib.hid (ST.out.alloc (.cells #[.string x.f0, .int .u64 x.f1.f0, .int .u32 x.f1.f1, .int .u8 x.f1.f2, .int .u8 x.f2, .int .u32 x.f3, .int .u64 x.f4, .string x.f5] 54))
              clear hx0 hx1 hx2 hx3 hx4 hx5 hx6 hx7
              generalize wr.alloc (.cells #[.string x.f0, .int .u64 x.f1.f0, .int .u32 x.f1.f1, .int .u8 x.f1.f2, .int .u8 x.f2, .int .u32 x.f3, .int .u64 x.f4, .string x.f5] 54) = w5 at *
              generalize wr.heap.size = zx at *
              have eq0 : w5.cell? ⟨zx, 0, none⟩ = some (.string x.f0) := (blk_cell AX.out 0).trans rfl
              have eq1 : w5.cell? ⟨zx, 1, none⟩ = some (.int .u64 x.f1.f0) := (blk_cell AX.out 1).trans rfl
              have eq2 : w5.cell? ⟨zx, 2, none⟩ = some (.int .u32 x.f1.f1) := (blk_cell AX.out 2).trans rfl
              have eq3 : w5.cell? ⟨zx, 3, none⟩ = some (.int .u8 x.f1.f2) := (blk_cell AX.out 3).trans rfl
              have eq4 : w5.cell? ⟨zx, 4, none⟩ = some (.int .u8 x.f2) := (blk_cell AX.out 4).trans rfl
              have eq5 : w5.cell? ⟨zx, 5, none⟩ = some (.int .u32 x.f3) := (blk_cell AX.out 5).trans rfl
              have eq6 : w5.cell? ⟨zx, 6, none⟩ = some (.int .u64 x.f4) := (blk_cell AX.out 6).trans rfl
              have eq7 : w5.cell? ⟨zx, 7, none⟩ = some (.string x.f5) := (blk_cell AX.out 7).trans rfl
              have hx9 := HX.out
              have RP := Lib.hid (fun (W : World) => Rec.recPut_any x.f0 x.f1.f0 x.f1.f1 x.f1.f2 x.f2 x.f3 x.f4 x.f5 W (by omega) hx9.2)
              have RS := Lib.hid (show (recS x).size ≤ 20000 from by have := recS_size x; omega)
              clear hx9
              have HQ := Lib.hid (show recsI x = (recS x).data.toList from rfl)
              rw [show (if Rec.mayR x.f0 x.f1.f0 x.f1.f2 x.f2 x.f3 x.f4 x.f5 = true then Rec.recB x.f0 x.f1.f0 x.f1.f1 x.f1.f2 x.f2 x.f3 x.f4 x.f5 else ⟨#[]⟩) = recS x from rfl] at RP
              generalize recS x = s9 at *
              generalize Rec.recE x.f0 x.f1.f0 x.f1.f2 x.f2 x.f3 x.f4 x.f5 = e9 at *
              go_wp2_with (first
                | (go_at_call 22; (with_reducible refine (RP.out _).mono ?_); rintro e w6 ⟨rfl, hb⟩; have ST5 := Lib.hid (ST.out.below hb); clear hb ST RP)
                | (go_at_call 20; (with_reducible refine (ST5.out.put s9 (by have := RS.out; omega) (by have := HL.out; omega)).mono ?_); rintro e w7 ⟨rfl, st, -⟩; have ST6 := Lib.hid st; clear st ST5))
              exact ⟨⟨i + 1, y + 1, by omega, rfl, Lib.hid (by have := HY.out; omega), Lib.hid (by rw [HI.out, HQ.out, ← List.append_assoc]; exact ST6.out)⟩, by have := HY.out; simp [intOf]; omega⟩
            · have hie : i = n3 := by omega
              have hq2 : decide (y < (n3 : Int)) = false := decide_eq_false (by have := HY.out; omega)
              rw [show m.recs.take i = m.recs from by rw [hie, HN9.out]; exact List.take_length] at ST
              clear hie hi hlt HY
              have ey10 : wr.cell? ⟨w.heap.size, 10, none⟩ = some (.slice A10 n4 g10) := (blk_cell ST.out.az 10).trans rfl
              go_wp2_with (go_at_call 19; (with_reducible refine (ST.out.num1 (n4 : Int) (Int.natCast_nonneg _) (by rw [List.length_append]; have h2 := HL9.out; have h3 := HTL2.out; omega)).mono ?_); rintro e w4 ⟨rfl, st, -⟩; have ST1 := Lib.hid st; clear st ST; have ex10 : w4.cell? ⟨w.heap.size, 10, none⟩ = some (.slice A10 n4 g10) := (blk_cell ST1.out.az 10).trans rfl)
              obtain ⟨T3, hT, hl⟩ : ∃ T : List UInt8, T = (T2 ++ m.recs.flatMap recsI) ++ numsL [(n4 : Int)] ∧ T.length ≤ 498064 := ⟨_, rfl, by
                rw [List.length_append, List.length_append]
                have h1 := num1_len (n4 : Int)
                have h2 := HL9.out
                have h3 := HTL2.out
                omega⟩
              rw [← hT] at ST1
              have HT3 := Lib.hid hT
              have HTL3 := Lib.hid hl
              clear hT hl
              go_loopw [126] (fun v126 w' => ∃ (i : Nat) (y : Int), i ≤ n4 ∧ v126 = .int .i64 y ∧ Hid (y = (i : Int)) ∧ Hid (St w w.heap.size zb #[.int .u8 m.kind, .int .u8 m.fr, .int .u8 m.dst, .int .u32 m.id, .int .u8 m.tg, .int .u8 m.rg, .bool false, .slice A7 n1 g7, .slice A8 n2 g8, .slice A9 n3 g9, .slice A10 n4 g10, .slice A11 n5 g11] (T3 ++ (m.seen.take i).flatMap seenI) w')) (fun v _ => n4 - (intOf v).toNat)
              case atStart => exact ⟨0, 0, Nat.zero_le _, rfl, Lib.hid rfl, Lib.hid (by rw [show (m.seen.take 0).flatMap seenI = [] from rfl, List.append_nil]; exact ST1.out)⟩
              case round =>
                clear ST1
                obtain ⟨i, y, hi, rfl, HY, ST⟩ := hrel
                by_cases hlt : i < n4
                · have hil : i < m.seen.length := by rw [← HN10.out]; exact hlt
                  have p157 : 0 ≤ y := by have := HY.out; omega
                  have q157 : y < (n4 : Int) := by have := HY.out; omega
                  have vj : IntKind.i64.wrap (y + 1) = y + 1 := IntWalk.i64_in _ ⟨by omega, by have := HB10.out; omega⟩
                  have HBB := Lib.hid ST.out.hb
                  obtain ⟨ad, e157, hx0, hx1, hx2, hx3, hx4⟩ := at_T56 HR10.out y p157 (by rw [← HN10.out]; exact q157)
                  cases e157
                  replace hx0 := (HBB.out.cell (World.block_lt_of_cell? w _ hx0)).trans hx0
                  replace hx1 := (HBB.out.cell (World.block_lt_of_cell? w _ hx1)).trans hx1
                  replace hx2 := (HBB.out.cell (World.block_lt_of_cell? w _ hx2)).trans hx2
                  replace hx3 := (HBB.out.cell (World.block_lt_of_cell? w _ hx3)).trans hx3
                  replace hx4 := (HBB.out.cell (World.block_lt_of_cell? w _ hx4)).trans hx4
                  have e0 : rd_T56 m.seen y = m.seen[i] := by
                    rw [show y = (i : Int) from HY.out]
                    unfold rd_T56
                    rw [Int.toNat_natCast, List.getD_eq_getElem?_getD, List.getElem?_eq_getElem hil]
                    rfl
                  have HX := Lib.hid (show _ from HS.out.seen _ (List.getElem_mem hil))
                  have HI := Lib.hid (flat_snoc seenI m.seen i hil)
                  rw [← e0] at HX HI
                  have HL := Lib.hid (show (T3 ++ (m.seen.take i).flatMap seenI).length ≤ 900000 from by
                    rw [List.length_append]
                    have h1 := flat_take_len seenI m.seen i
                    have h2 := HL10.out
                    have h3 := HTL3.out
                    omega)
                  clear e0 hil HBB
                  generalize rd_T56 m.seen y = x at *
                  have hq0 : (0 ≤ y) = True := eq_true p157
                  have hq1 : (y < (n4 : Int)) = True := eq_true q157
                  go_upto_region 30 with (fail)
                  have AX := Lib.hid (blk_new wr (.cells #[.string x.f0, .int .u64 x.f1.f0, .int .u32 x.f1.f1, .int .u8 x.f1.f2, .int .u8 x.f2] 56))
                  have hxb : wr.heap.size ≠ zb := by have := ST.out.lt; omega
                  replace ST := Lib.hid (ST.out.alloc (.cells #[.string x.f0, .int .u64 x.f1.f0, .int .u32 x.f1.f1, .int .u8 x.f1.f2, .int .u8 x.f2] 56))
                  clear hx0 hx1 hx2 hx3 hx4
                  generalize wr.alloc (.cells #[.string x.f0, .int .u64 x.f1.f0, .int .u32 x.f1.f1, .int .u8 x.f1.f2, .int .u8 x.f2] 56) = w5 at *
                  generalize wr.heap.size = zx at *
                  have eq0 : w5.cell? ⟨zx, 0, none⟩ = some (.string x.f0) := (blk_cell AX.out 0).trans rfl
                  have eq1 : w5.cell? ⟨zx, 1, none⟩ = some (.int .u64 x.f1.f0) := (blk_cell AX.out 1).trans rfl
                  have eq2 : w5.cell? ⟨zx, 2, none⟩ = some (.int .u32 x.f1.f1) := (blk_cell AX.out 2).trans rfl
                  have eq3 : w5.cell? ⟨zx, 3, none⟩ = some (.int .u8 x.f1.f2) := (blk_cell AX.out 3).trans rfl
                  have eq4 : w5.cell? ⟨zx, 4, none⟩ = some (.int .u8 x.f2) := (blk_cell AX.out 4).trans rfl
                  have hr := HX.out
                  unfold isB at hr
                  have u1 : IntKind.u64.wrap x.f1.f0 = x.f1.f0 := IntWalk.u64_in _ ⟨by omega, by omega⟩
                  have u2 : IntKind.u64.wrap x.f1.f1 = x.f1.f1 := IntWalk.u64_in _ ⟨by omega, by omega⟩
                  have u3 : IntKind.u64.wrap x.f1.f2 = x.f1.f2 := IntWalk.u64_in _ ⟨by omega, by omega⟩
                  have u4 : IntKind.u64.wrap x.f2 = x.f2 := IntWalk.u64_in _ ⟨by omega, by omega⟩
                  have HZ := Lib.hid (And.intro hr.2.1.1 (And.intro hr.2.2.1.1 (And.intro hr.2.2.2.1.1 hr.2.2.2.2.1)))
                  clear hr
                  go_wp2_with (fail)
                  refine start_ (n := 7) (S := fun w' => w'.cell? ⟨zx, 0, none⟩ = some (.string x.f0)) (ds := []) #[false, false, false, false, false, false, false] (by kernel_rfl) rfl rfl ((blk_cell AX.out 0).trans rfl) (fun hHeld => ?_)
                  replace ST := Lib.hid ST.out.drew
                  replace AX := Lib.hid (blk_drew AX.out)
                  generalize w5.drew = w3' at ST AX hHeld ⊢
                  refine pure_ (i := 0) (N := some 130) (v := ?_) (a' := ?_) #[true, false, false, false, false, false, false] rfl rfl (by kernel_rfl) (fun _ _ _ h => h) (Or.inl ⟨by rfl, ?_⟩) ?_ ?_
                  rotate_left
                  · intro w'
                    go_simp
                    with_reducible rfl
                  rotate_left
                  · simp only [Act.put, List.setIfInBounds_toArray, List.set_cons_zero, List.set_cons_succ, i64_w, i32_w]
                    rfl
                  refine pure_ (i := 1) (N := some 131) (v := ?_) (a' := ?_) #[true, true, false, false, false, false, false] rfl rfl (by kernel_rfl) (fun _ _ _ h => h) (Or.inl ⟨by rfl, ?_⟩) ?_ ?_
                  rotate_left
                  · intro w'
                    go_simp
                    with_reducible rfl
                  rotate_left
                  · simp only [Act.put, List.setIfInBounds_toArray, List.set_cons_zero, List.set_cons_succ, i64_w, i32_w]
                    rfl
                  refine pure_ (i := 2) (N := some 132) (v := ?_) (a' := ?_) #[true, true, true, false, false, false, false] rfl rfl (by kernel_rfl) (fun _ _ _ h => h) (Or.inl ⟨by rfl, ?_⟩) ?_ ?_
                  rotate_left
                  · intro w'
                    go_simp
                    with_reducible rfl
                  rotate_left
                  · simp only [Act.put, List.setIfInBounds_toArray, List.set_cons_zero, List.set_cons_succ, i64_w, i32_w]
                    rfl
                  refine pure_ (i := 3) (N := some 133) (v := ?_) (a' := ?_) #[true, true, true, true, false, false, false] rfl rfl (by kernel_rfl) (fun _ _ _ h => h) (Or.inl ⟨by rfl, ?_⟩) ?_ ?_
                  rotate_left
                  · intro w'
                    go_simp
                    with_reducible rfl
                  rotate_left
                  · simp only [Act.put, List.setIfInBounds_toArray, List.set_cons_zero, List.set_cons_succ, i64_w, i32_w]
                    rfl
                  refine take_ (i := 4) (N := some 134) (v := ?_) (a' := ?_) #[true, true, true, true, true, false, false] rfl rfl (by kernel_rfl) (fun _ _ _ h => h) (Or.inl ⟨by rfl, ?_⟩) hHeld ?_ ?_
                  rotate_left
                  · intro w' s0
                    go_simp
                    with_reducible rfl
                  rotate_left
                  · simp only [Act.put, List.setIfInBounds_toArray, List.set_cons_zero, List.set_cons_succ, i64_w, i32_w]
                    rfl
                  refine one_ (i := 5) (N := some 135) #[true, true, true, true, true, true, false] rfl rfl (by kernel_rfl) (by decide) (fun K hK => ?_)
                  refine goes_ Try.func21 (by kernel_rfl) rfl #[.string x.f0] (by rfl) rfl rfl (by simp only [List.map_toArray, List.map_cons, List.map_nil]; rfl) ?_
                  with_reducible refine (Num.putText_any x.f0 _ (by have := HX.out.1; omega)).mono ?_
                  rintro e w10 ⟨rfl, hb⟩
                  refine ⟨_, rfl, ?_⟩
                  have ST5 := Lib.hid (ST.out.below hb)
                  have AX5 := Lib.hid (blk_below AX.out hb)
                  clear hb ST AX
                  refine hK.out _ _ ((blk_cell AX5.out 0).trans rfl) (fun hHeld => ?_)
                  clear hK K
                  refine norm_ (a' := ?_) ?_ ?_
                  rotate_left
                  · show Act.put _ (some 135) _ = _
                    simp only [Act.put, List.setIfInBounds_toArray, List.set_cons_zero, List.set_cons_succ, i64_w, i32_w]
                    rfl
                  refine one_ (i := 6) (N := some 136) #[true, true, true, true, true, true, true] rfl rfl (by kernel_rfl) (by decide) (fun K hK => ?_)
                  refine goes_ Try.func20 (by kernel_rfl) rfl #[.pointer (some ⟨zb, 0, none⟩), .string (textB x.f0)] (by rfl) rfl rfl (by simp only [List.map_toArray, List.map_cons, List.map_nil]; rfl) ?_
                  with_reducible refine (ST5.out.put (textB x.f0) (by have := Rec.textB_size x.f0; have := HX.out.1; omega) (by have := HL.out; omega)).mono ?_
                  rintro e w11 ⟨rfl, st, hk⟩
                  refine ⟨_, rfl, ?_⟩
                  have ST6 := Lib.hid st
                  have AX6 := Lib.hid (hk zx _ AX5.out (fun e => hxb (Option.some.inj e)) (fun c fz e => by injection e with _ e _; cases e))
                  clear st hk ST5 AX5
                  refine hK.out _ _ ((blk_cell AX6.out 0).trans rfl) (fun hHeld => ?_)
                  clear hK K
                  refine norm_ (a' := ?_) ?_ ?_
                  rotate_left
                  · show Act.put _ (some 136) _ = _
                    simp only [Act.put, List.setIfInBounds_toArray, List.set_cons_zero, List.set_cons_succ, i64_w, i32_w]
                    rfl
                  refine done_ (by kernel_rfl) ?_
                  have er1 : w11.cell? ⟨zx, 1, none⟩ = some (.int .u64 x.f1.f0) := (blk_cell AX6.out 1).trans rfl
                  have er2 : w11.cell? ⟨zx, 2, none⟩ = some (.int .u32 x.f1.f1) := (blk_cell AX6.out 2).trans rfl
                  have er3 : w11.cell? ⟨zx, 3, none⟩ = some (.int .u8 x.f1.f2) := (blk_cell AX6.out 3).trans rfl
                  have er4 : w11.cell? ⟨zx, 4, none⟩ = some (.int .u8 x.f2) := (blk_cell AX6.out 4).trans rfl
                  go_wp2_with (go_at_call 19; (with_reducible refine (ST6.out.num4 x.f1.f0 x.f1.f1 x.f1.f2 x.f2 HZ.out.1 HZ.out.2.1 HZ.out.2.2.1 HZ.out.2.2.2 (by rw [List.length_append, size_len]; have := HL.out; have := Rec.textB_size x.f0; have := HX.out.1; omega)).mono ?_); rintro e w12 ⟨rfl, st, -⟩; have ST7 := Lib.hid st; clear st ST6)
                  exact ⟨⟨i + 1, y + 1, by omega, rfl, Lib.hid (by have := HY.out; omega), Lib.hid (by rw [HI.out, show seenI x = (textB x.f0).data.toList ++ numsL [x.f1.f0, x.f1.f1, x.f1.f2, x.f2] from rfl, ← List.append_assoc, ← List.append_assoc]; exact ST7.out)⟩, by have := HY.out; simp [intOf]; omega⟩
                · have hie : i = n4 := by omega
                  have hq2 : decide (y < (n4 : Int)) = false := decide_eq_false (by have := HY.out; omega)
                  rw [show m.seen.take i = m.seen from by rw [hie, HN10.out]; exact List.take_length] at ST
                  clear hie hi hlt HY
                  have ey11 : wr.cell? ⟨w.heap.size, 11, none⟩ = some (.slice A11 n5 g11) := (blk_cell ST.out.az 11).trans rfl
                  go_wp2_with (go_at_call 19; (with_reducible refine (ST.out.num1 (n5 : Int) (Int.natCast_nonneg _) (by rw [List.length_append]; have h2 := HL10.out; have h3 := HTL3.out; omega)).mono ?_); rintro e w4 ⟨rfl, st, -⟩; have ST1 := Lib.hid st; clear st ST; have ex11 : w4.cell? ⟨w.heap.size, 11, none⟩ = some (.slice A11 n5 g11) := (blk_cell ST1.out.az 11).trans rfl)
                  obtain ⟨T4, hT, hl⟩ : ∃ T : List UInt8, T = (T3 ++ m.seen.flatMap seenI) ++ numsL [(n5 : Int)] ∧ T.length ≤ 707072 := ⟨_, rfl, by
                    rw [List.length_append, List.length_append]
                    have h1 := num1_len (n5 : Int)
                    have h2 := HL10.out
                    have h3 := HTL3.out
                    omega⟩
                  rw [← hT] at ST1
                  have HT4 := Lib.hid hT
                  have HTL4 := Lib.hid hl
                  clear hT hl
                  go_loopw [165] (fun v165 w' => ∃ (i : Nat) (y : Int), i ≤ n5 ∧ v165 = .int .i64 y ∧ Hid (y = (i : Int)) ∧ Hid (St w w.heap.size zb #[.int .u8 m.kind, .int .u8 m.fr, .int .u8 m.dst, .int .u32 m.id, .int .u8 m.tg, .int .u8 m.rg, .bool false, .slice A7 n1 g7, .slice A8 n2 g8, .slice A9 n3 g9, .slice A10 n4 g10, .slice A11 n5 g11] (T4 ++ (m.digs.take i).flatMap digsI) w')) (fun v _ => n5 - (intOf v).toNat)
                  case atStart => exact ⟨0, 0, Nat.zero_le _, rfl, Lib.hid rfl, Lib.hid (by rw [show (m.digs.take 0).flatMap digsI = [] from rfl, List.append_nil]; exact ST1.out)⟩
                  case round =>
                    clear ST1
                    obtain ⟨i, y, hi, rfl, HY, ST⟩ := hrel
                    by_cases hlt : i < n5
                    · have hil : i < m.digs.length := by rw [← HN11.out]; exact hlt
                      have p157 : 0 ≤ y := by have := HY.out; omega
                      have q157 : y < (n5 : Int) := by have := HY.out; omega
                      have vj : IntKind.i64.wrap (y + 1) = y + 1 := IntWalk.i64_in _ ⟨by omega, by have := HB11.out; omega⟩
                      have HBB := Lib.hid ST.out.hb
                      obtain ⟨ad, e157, hx0⟩ := Kd.at_int HR11.out y p157 (by rw [← HN11.out]; exact q157)
                      cases e157
                      replace hx0 := (HBB.out.cell (World.block_lt_of_cell? w _ hx0)).trans hx0
                      have e0 : rd m.digs y = m.digs[i] := by
                        rw [show y = (i : Int) from HY.out]
                        unfold rd
                        rw [Int.toNat_natCast, List.getD_eq_getElem?_getD, List.getElem?_eq_getElem hil]
                        rfl
                      have HX := Lib.hid (show _ from HS.out.digs _ (List.getElem_mem hil))
                      have HI := Lib.hid (flat_snoc digsI m.digs i hil)
                      rw [← e0] at HX HI
                      have HL := Lib.hid (show (T4 ++ (m.digs.take i).flatMap digsI).length ≤ 900000 from by
                        rw [List.length_append]
                        have h1 := flat_take_len digsI m.digs i
                        have h2 := HL11.out
                        have h3 := HTL4.out
                        omega)
                      clear e0 hil HBB
                      generalize rd m.digs y = x at *
                      have hq0 : (0 ≤ y) = True := eq_true p157
                      have hq1 : (y < (n5 : Int)) = True := eq_true q157
                      have hr := HX.out
                      unfold isB at hr
                      have hd2 := dig_and x hr.1 hr.2
                      have HD := Lib.hid (show 0 ≤ x / 4294967296 ∧ 0 ≤ x % 4294967296 from ⟨by omega, by omega⟩)
                      have HQ := Lib.hid (show digsI x = numsL [x / 4294967296, x % 4294967296] from rfl)
                      clear hr
                      go_wp2_with (go_at_call 19; (with_reducible refine (ST.out.num2 (x / 4294967296) (x % 4294967296) HD.out.1 HD.out.2 (by have := HL.out; omega)).mono ?_); rintro e w6 ⟨rfl, st, -⟩; have ST6 := Lib.hid st; clear st ST)
                      exact ⟨⟨i + 1, y + 1, by omega, rfl, Lib.hid (by have := HY.out; omega), Lib.hid (by rw [HI.out, HQ.out, ← List.append_assoc]; exact ST6.out)⟩, by have := HY.out; simp [intOf]; omega⟩
                    · have hie : i = n5 := by omega
                      have hq2 : decide (y < (n5 : Int)) = false := decide_eq_false (by have := HY.out; omega)
                      rw [show m.digs.take i = m.digs from by rw [hie, HN11.out]; exact List.take_length] at ST
                      clear hie hi hlt HY
                      have HCW := Lib.hid (HC.out.below ST.out.hb)
                      have HBY := Lib.hid (show (⟨(T4 ++ m.digs.flatMap digsI).toArray⟩ : ByteArray) = bodyB m from by
                        unfold bodyB bodyL headL flagN
                        rw [HF.out, HT4.out, HT3.out, HT2.out, HT1.out, HT0.out, HN7.out, HN8.out, HN9.out, HN10.out, HN11.out]
                        rfl)
                      have HNE := Lib.hid (show T4 ++ m.digs.flatMap digsI ≠ [] from by
                        intro h
                        have h1 := HBY.out
                        rw [h] at h1
                        exact body_ne m h1.symm)
                      go_wp2_with (fail)
                      refine start_ (n := 20) (S := fun w' => w'.cell? ⟨b, 0, none⟩ = some (.pointer (some ⟨c, 0, none⟩)) ∧ w'.cell? ⟨w.heap.size, 0, none⟩ = some (.int .u8 m.kind) ∧ w'.cell? ⟨w.heap.size, 1, none⟩ = some (.int .u8 m.fr) ∧ w'.cell? ⟨w.heap.size, 2, none⟩ = some (.int .u8 m.dst)) (ds := []) #[false, false, false, false, false, false, false, false, false, false, false, false, false, false, false, false, false, false, false, false] (by kernel_rfl) rfl rfl ⟨(at1 HCW.out.a).1, (blk_cell ST.out.az 0).trans rfl, (blk_cell ST.out.az 1).trans rfl, (blk_cell ST.out.az 2).trans rfl⟩ (fun hHeld => ?_)
                      replace ST := Lib.hid ST.out.drew
                      generalize wr.drew = w3' at ST hHeld ⊢
                      refine pure_ (i := 0) (N := some 177) (v := ?_) (a' := ?_) #[true, false, false, false, false, false, false, false, false, false, false, false, false, false, false, false, false, false, false, false] rfl rfl (by kernel_rfl) (fun _ _ _ h => h) (Or.inl ⟨by rfl, ?_⟩) ?_ ?_
                      rotate_left
                      · intro w'
                        go_simp
                        with_reducible rfl
                      rotate_left
                      · simp only [Act.put, List.setIfInBounds_toArray, List.set_cons_zero, List.set_cons_succ, i64_w, i32_w]
                        rfl
                      refine pure_ (i := 1) (N := some 178) (v := ?_) (a' := ?_) #[true, true, false, false, false, false, false, false, false, false, false, false, false, false, false, false, false, false, false, false] rfl rfl (by kernel_rfl) (fun _ _ _ h => h) (Or.inl ⟨by rfl, ?_⟩) ?_ ?_
                      rotate_left
                      · intro w'
                        go_simp
                        with_reducible rfl
                      rotate_left
                      · simp only [Act.put, List.setIfInBounds_toArray, List.set_cons_zero, List.set_cons_succ, i64_w, i32_w]
                        rfl
                      refine pure_ (i := 2) (N := some 179) (v := ?_) (a' := ?_) #[true, true, true, false, false, false, false, false, false, false, false, false, false, false, false, false, false, false, false, false] rfl rfl (by kernel_rfl) (fun _ _ _ h => h) (Or.inl ⟨by rfl, ?_⟩) ?_ ?_
                      rotate_left
                      · intro w'
                        go_simp
                        with_reducible rfl
                      rotate_left
                      · simp only [Act.put, List.setIfInBounds_toArray, List.set_cons_zero, List.set_cons_succ, i64_w, i32_w]
                        rfl
                      refine pure_ (i := 4) (N := some 181) (v := ?_) (a' := ?_) #[true, true, true, false, true, false, false, false, false, false, false, false, false, false, false, false, false, false, false, false] rfl rfl (by kernel_rfl) (fun _ _ _ h => h) (Or.inl ⟨by rfl, ?_⟩) ?_ ?_
                      rotate_left
                      · intro w'
                        go_simp
                        with_reducible rfl
                      rotate_left
                      · simp only [Act.put, List.setIfInBounds_toArray, List.set_cons_zero, List.set_cons_succ, i64_w, i32_w]
                        rfl
                      refine pure_ (i := 6) (N := some 183) (v := ?_) (a' := ?_) #[true, true, true, false, true, false, true, false, false, false, false, false, false, false, false, false, false, false, false, false] rfl rfl (by kernel_rfl) (fun _ _ _ h => h) (Or.inl ⟨by rfl, ?_⟩) ?_ ?_
                      rotate_left
                      · intro w'
                        go_simp
                        with_reducible rfl
                      rotate_left
                      · simp only [Act.put, List.setIfInBounds_toArray, List.set_cons_zero, List.set_cons_succ, i64_w, i32_w]
                        rfl
                      refine pure_ (i := 8) (N := some 185) (v := ?_) (a' := ?_) #[true, true, true, false, true, false, true, false, true, false, false, false, false, false, false, false, false, false, false, false] rfl rfl (by kernel_rfl) (fun _ _ _ h => h) (Or.inl ⟨by rfl, ?_⟩) ?_ ?_
                      rotate_left
                      · intro w'
                        go_simp
                        with_reducible rfl
                      rotate_left
                      · simp only [Act.put, List.setIfInBounds_toArray, List.set_cons_zero, List.set_cons_succ, i64_w, i32_w]
                        rfl
                      refine pure_ (i := 10) (N := some 187) (v := ?_) (a' := ?_) #[true, true, true, false, true, false, true, false, true, false, true, false, false, false, false, false, false, false, false, false] rfl rfl (by kernel_rfl) (fun _ _ _ h => h) (Or.inl ⟨by rfl, ?_⟩) ?_ ?_
                      rotate_left
                      · intro w'
                        go_simp
                        with_reducible rfl
                      rotate_left
                      · simp only [Act.put, List.setIfInBounds_toArray, List.set_cons_zero, List.set_cons_succ, i64_w, i32_w]
                        rfl
                      refine pure_ (i := 11) (N := some 188) (v := ?_) (a' := ?_) #[true, true, true, false, true, false, true, false, true, false, true, true, false, false, false, false, false, false, false, false] rfl rfl (by kernel_rfl) (fun _ _ _ h => h) (Or.inl ⟨by rfl, ?_⟩) ?_ ?_
                      rotate_left
                      · intro w'
                        go_simp
                        with_reducible rfl
                      rotate_left
                      · simp only [Act.put, List.setIfInBounds_toArray, List.set_cons_zero, List.set_cons_succ, i64_w, i32_w]
                        rfl
                      refine pure_ (i := 12) (N := some 189) (v := ?_) (a' := ?_) #[true, true, true, false, true, false, true, false, true, false, true, true, true, false, false, false, false, false, false, false] rfl rfl (by kernel_rfl) (fun _ _ _ h => h) (Or.inl ⟨by rfl, ?_⟩) ?_ ?_
                      rotate_left
                      · intro w'
                        go_simp
                        with_reducible rfl
                      rotate_left
                      · simp only [Act.put, List.setIfInBounds_toArray, List.set_cons_zero, List.set_cons_succ, i64_w, i32_w]
                        rfl
                      refine take_ (i := 3) (N := some 180) (v := ?_) (a' := ?_) #[true, true, true, true, true, false, true, false, true, false, true, true, true, false, false, false, false, false, false, false] rfl rfl (by kernel_rfl) (fun _ _ _ h => h) (Or.inl ⟨by rfl, ?_⟩) hHeld ?_ ?_
                      rotate_left
                      · rintro w' ⟨s0, s1, s2, s3⟩
                        go_simp
                        with_reducible rfl
                      rotate_left
                      · simp only [Act.put, List.setIfInBounds_toArray, List.set_cons_zero, List.set_cons_succ, i64_w, i32_w]
                        rfl
                      refine take_ (i := 5) (N := some 182) (v := ?_) (a' := ?_) #[true, true, true, true, true, true, true, false, true, false, true, true, true, false, false, false, false, false, false, false] rfl rfl (by kernel_rfl) (fun _ _ _ h => h) (Or.inl ⟨by rfl, ?_⟩) hHeld ?_ ?_
                      rotate_left
                      · rintro w' ⟨s0, s1, s2, s3⟩
                        go_simp
                        with_reducible rfl
                      rotate_left
                      · simp only [Act.put, List.setIfInBounds_toArray, List.set_cons_zero, List.set_cons_succ, i64_w, i32_w]
                        rfl
                      refine take_ (i := 7) (N := some 184) (v := ?_) (a' := ?_) #[true, true, true, true, true, true, true, true, true, false, true, true, true, false, false, false, false, false, false, false] rfl rfl (by kernel_rfl) (fun _ _ _ h => h) (Or.inl ⟨by rfl, ?_⟩) hHeld ?_ ?_
                      rotate_left
                      · rintro w' ⟨s0, s1, s2, s3⟩
                        go_simp
                        with_reducible rfl
                      rotate_left
                      · simp only [Act.put, List.setIfInBounds_toArray, List.set_cons_zero, List.set_cons_succ, i64_w, i32_w]
                        rfl
                      refine take_ (i := 9) (N := some 186) (v := ?_) (a' := ?_) #[true, true, true, true, true, true, true, true, true, true, true, true, true, false, false, false, false, false, false, false] rfl rfl (by kernel_rfl) (fun _ _ _ h => h) (Or.inl ⟨by rfl, ?_⟩) hHeld ?_ ?_
                      rotate_left
                      · rintro w' ⟨s0, s1, s2, s3⟩
                        go_simp
                        with_reducible rfl
                      rotate_left
                      · simp only [Act.put, List.setIfInBounds_toArray, List.set_cons_zero, List.set_cons_succ, i64_w, i32_w]
                        rfl
                      refine one_ (i := 13) (N := some 190) #[true, true, true, true, true, true, true, true, true, true, true, true, true, true, false, false, false, false, false, false] rfl rfl (by kernel_rfl) (by decide) (fun K hK => ?_)
                      refine goes_ Try.func24 (by kernel_rfl) rfl #[.pointer (some ⟨zb, 0, none⟩)] (by rfl) rfl rfl (by simp only [List.map_toArray, List.map_cons, List.map_nil]; rfl) ?_
                      with_reducible refine (ST.out.str HNE.out).mono ?_
                      rintro e w10 ⟨rfl, hb, hk⟩
                      refine ⟨_, rfl, ?_⟩
                      have AZ5 := Lib.hid (hk w.heap.size _ ST.out.az (fun e => ST.out.ne (Option.some.inj e)) (fun c fz e => by injection e with _ e _; cases e))
                      have HB5 := Lib.hid (below_from ST.out.hb hb)
                      have HC5 := Lib.hid (HC.out.below HB5.out)
                      rw [HBY.out]
                      clear hb hk ST
                      refine hK.out _ _ ⟨(at1 HC5.out.a).1, (blk_cell AZ5.out 0).trans rfl, (blk_cell AZ5.out 1).trans rfl, (blk_cell AZ5.out 2).trans rfl⟩ (fun hHeld => ?_)
                      clear hK K
                      refine norm_ (a' := ?_) ?_ ?_
                      rotate_left
                      · show Act.put _ (some 190) _ = _
                        simp only [Act.put, List.setIfInBounds_toArray, List.set_cons_zero, List.set_cons_succ, i64_w, i32_w]
                        rfl
                      refine pure_ (i := 14) (N := some 191) (v := ?_) (a' := ?_) #[true, true, true, true, true, true, true, true, true, true, true, true, true, true, true, false, false, false, false, false] rfl rfl (by kernel_rfl) (fun _ _ _ h => h) (Or.inl ⟨by rfl, ?_⟩) ?_ ?_
                      rotate_left
                      · intro w'
                        go_simp
                        with_reducible rfl
                      rotate_left
                      · simp only [Act.put, List.setIfInBounds_toArray, List.set_cons_zero, List.set_cons_succ, i64_w, i32_w]
                        rfl
                      refine one_ (i := 15) (N := some 192) #[true, true, true, true, true, true, true, true, true, true, true, true, true, true, true, true, false, false, false, false] rfl rfl (by kernel_rfl) (by decide) (fun K hK => ?_)
                      refine goes_ Try.func23 (by kernel_rfl) rfl #[.pointer (some ⟨c, 0, none⟩), .agg #[.int .u8 m.kind, .int .u8 m.fr, .int .u8 m.dst, .string (bodyB m)]] (by rfl) rfl rfl (by simp only [List.map_toArray, List.map_cons, List.map_nil]; rfl) ?_
                      with_reducible refine (HE.out _ HC5.out).mono ?_
                      rintro e w11 ⟨rfl, ht, hk⟩
                      refine ⟨_, rfl, ?_⟩
                      have HTB := Lib.hid ht
                      have HCH := Lib.hid (chg_step HB5.out hk)
                      have AZ6 := Lib.hid ((hk.block w.heap.size (blk_lt AZ5.out) (by have := Frame.isTab_lt HC.out.c.t; omega)).trans AZ5.out)
                      have HC6 := Lib.hid (HC5.out.chg ht hk)
                      clear ht hk AZ5 HB5 HC5
                      refine hK.out _ _ ⟨(at1 HC6.out.a).1, (blk_cell AZ6.out 0).trans rfl, (blk_cell AZ6.out 1).trans rfl, (blk_cell AZ6.out 2).trans rfl⟩ (fun hHeld => ?_)
                      clear hK K
                      refine norm_ (a' := ?_) ?_ ?_
                      rotate_left
                      · show Act.put _ (some 192) _ = _
                        simp only [Act.put, List.setIfInBounds_toArray, List.set_cons_zero, List.set_cons_succ, i64_w, i32_w]
                        rfl
                      refine pure_ (i := 16) (N := some 193) (v := ?_) (a' := ?_) #[true, true, true, true, true, true, true, true, true, true, true, true, true, true, true, true, true, false, false, false] rfl rfl (by kernel_rfl) (fun _ _ _ h => h) (Or.inl ⟨by rfl, ?_⟩) ?_ ?_
                      rotate_left
                      · intro w'
                        go_simp
                        with_reducible rfl
                      rotate_left
                      · simp only [Act.put, List.setIfInBounds_toArray, List.set_cons_zero, List.set_cons_succ, i64_w, i32_w]
                        rfl
                      refine pure_ (i := 17) (N := some 194) (v := ?_) (a' := ?_) #[true, true, true, true, true, true, true, true, true, true, true, true, true, true, true, true, true, true, false, false] rfl rfl (by kernel_rfl) (fun _ _ _ h => h) (Or.inl ⟨by rfl, ?_⟩) ?_ ?_
                      rotate_left
                      · intro w'
                        go_simp
                        with_reducible rfl
                      rotate_left
                      · simp only [Act.put, List.setIfInBounds_toArray, List.set_cons_zero, List.set_cons_succ, i64_w, i32_w]
                        rfl
                      refine pure_ (i := 18) (N := some 4) (v := ?_) (a' := ?_) #[true, true, true, true, true, true, true, true, true, true, true, true, true, true, true, true, true, true, true, false] rfl rfl (by kernel_rfl) (fun _ _ _ h => h) (Or.inl ⟨by rfl, ?_⟩) ?_ ?_
                      rotate_left
                      · intro w'
                        go_simp
                        with_reducible rfl
                      rotate_left
                      · simp only [Act.put, List.setIfInBounds_toArray, List.set_cons_zero, List.set_cons_succ, i64_w, i32_w]
                        rfl
                      refine pure_ (i := 19) (N := some 5) (v := ?_) (a' := ?_) #[true, true, true, true, true, true, true, true, true, true, true, true, true, true, true, true, true, true, true, true] rfl rfl (by kernel_rfl) (fun _ _ _ h => h) (Or.inl ⟨by rfl, ?_⟩) ?_ ?_
                      rotate_left
                      · intro w'
                        go_simp
                        with_reducible rfl
                      rotate_left
                      · simp only [Act.put, List.setIfInBounds_toArray, List.set_cons_zero, List.set_cons_succ, i64_w, i32_w]
                        rfl
                      refine done_ (by kernel_rfl) ?_
                      go_wp2_with (fail)
                      go_ret2
                      exact ⟨rfl, HTB.out, HCH.out⟩
end Go.Proofs.Ytdjompbhlkgmbaa.Msg
end
section
/- Pack of any message (own text; written by wip/tools/gen_msgpackn.py). -/
namespace Go.Proofs.Ytdjompbhlkgmbaa.Msg
open Go.RowKit Go.Proofs.Ytdjompbhlkgmbaa.Mem Go.Proofs.YtdjompbhlkgmbaaW.PrintWords Go.Proofs.YtdjompbhlkgmbaaW.PrintLast Go.Proofs.YtdjompbhlkgmbaaW.PrintMore Go.Proofs.Ytdjompbhlkgmbaa.PMsg
set_option linter.unusedVariables false
set_option linter.unusedSimpArgs false
def packS (m : M) : ByteArray := if mayM m = true then Frame.encS m.kind.toNat m.fr.toNat m.dst.toNat (bodyB m) else ⟨#[]⟩
def packE (m : M) : Int := if mayM m = true then Frame.encE m.kind.toNat m.fr.toNat m.dst.toNat (bodyB m) else 1
set_option maxRecDepth 100000 in
set_option maxHeartbeats 4000000 in
theorem pack_no (m : M) (A7 : Option Addr) (g7 : Nat) (A8 : Option Addr) (g8 : Nat) (A9 : Option Addr) (g9 : Nat) (A10 : Option Addr) (g10 : Nat) (A11 : Option Addr) (g11 : Nat) (b c tb : Nat) (w : World) (hm : HasM m A7 g7 A8 g8 A9 g9 A10 g10 A11 g11 w) (hs : SmM m) (hc : MCod w b c tb) (hy : mayM m = false) :
    Calls Try.prog 10 #[.pointer (some ⟨b, 0, none⟩), .agg #[.int .u8 m.kind, .int .u8 m.fr, .int .u8 m.dst, .int .u32 m.id, .int .u8 m.tg, .int .u8 m.rg, .bool m.flag, .slice A7 m.news.length g7, .slice A8 m.keys.length g8, .slice A9 m.recs.length g9, .slice A10 m.seen.length g10, .slice A11 m.digs.length g11]] w fun e w' => e = .returned (.tuple #[.string ⟨#[]⟩, .int .i64 1]) ∧ Below w.heap.size w w' := by
  have hmay := fun (W : World) (h : Below w.heap.size w W) => may_c m A7 g7 A8 g8 A9 g9 A10 g10 A11 g11 W (hm.below h) hs
  rw [hy] at hmay
  have MY := Lib.hid hmay
  clear hm hs hc hy hmay
  go_enter Try.func10, Try.ntmps10
  go_upto_region 1 with (fail)
  have AZ := Lib.hid (blk_new w (.cells #[.int .u8 m.kind, .int .u8 m.fr, .int .u8 m.dst, .int .u32 m.id, .int .u8 m.tg, .int .u8 m.rg, .bool m.flag, .slice A7 m.news.length g7, .slice A8 m.keys.length g8, .slice A9 m.recs.length g9, .slice A10 m.seen.length g10, .slice A11 m.digs.length g11] 29))
  have HB := Lib.hid (below_alloc (Below.refl w.heap.size w) (.cells #[.int .u8 m.kind, .int .u8 m.fr, .int .u8 m.dst, .int .u32 m.id, .int .u8 m.tg, .int .u8 m.rg, .bool m.flag, .slice A7 m.news.length g7, .slice A8 m.keys.length g8, .slice A9 m.recs.length g9, .slice A10 m.seen.length g10, .slice A11 m.digs.length g11] 29))
  generalize w.alloc (.cells #[.int .u8 m.kind, .int .u8 m.fr, .int .u8 m.dst, .int .u32 m.id, .int .u8 m.tg, .int .u8 m.rg, .bool m.flag, .slice A7 m.news.length g7, .slice A8 m.keys.length g8, .slice A9 m.recs.length g9, .slice A10 m.seen.length g10, .slice A11 m.digs.length g11] 29) = w1 at *
  have ez0 : w1.cell? ⟨w.heap.size, 0, none⟩ = some (.int .u8 m.kind) := (blk_cell AZ.out 0).trans rfl
  have ez1 : w1.cell? ⟨w.heap.size, 1, none⟩ = some (.int .u8 m.fr) := (blk_cell AZ.out 1).trans rfl
  have ez2 : w1.cell? ⟨w.heap.size, 2, none⟩ = some (.int .u8 m.dst) := (blk_cell AZ.out 2).trans rfl
  have ez3 : w1.cell? ⟨w.heap.size, 3, none⟩ = some (.int .u32 m.id) := (blk_cell AZ.out 3).trans rfl
  have ez4 : w1.cell? ⟨w.heap.size, 4, none⟩ = some (.int .u8 m.tg) := (blk_cell AZ.out 4).trans rfl
  have ez5 : w1.cell? ⟨w.heap.size, 5, none⟩ = some (.int .u8 m.rg) := (blk_cell AZ.out 5).trans rfl
  have ez6 : w1.cell? ⟨w.heap.size, 6, none⟩ = some (.bool m.flag) := (blk_cell AZ.out 6).trans rfl
  have ez7 : w1.cell? ⟨w.heap.size, 7, none⟩ = some (.slice A7 m.news.length g7) := (blk_cell AZ.out 7).trans rfl
  have ez8 : w1.cell? ⟨w.heap.size, 8, none⟩ = some (.slice A8 m.keys.length g8) := (blk_cell AZ.out 8).trans rfl
  have ez9 : w1.cell? ⟨w.heap.size, 9, none⟩ = some (.slice A9 m.recs.length g9) := (blk_cell AZ.out 9).trans rfl
  have ez10 : w1.cell? ⟨w.heap.size, 10, none⟩ = some (.slice A10 m.seen.length g10) := (blk_cell AZ.out 10).trans rfl
  have ez11 : w1.cell? ⟨w.heap.size, 11, none⟩ = some (.slice A11 m.digs.length g11) := (blk_cell AZ.out 11).trans rfl
  go_wp2_with (go_at_call 18; (with_reducible refine (MY.out _ HB.out).mono ?_); rintro e w2 ⟨rfl, hb2⟩; have HB2 := Lib.hid (below_step HB.out hb2); clear hb2 HB AZ)
  go_ret2
  exact ⟨rfl, HB2.out⟩
theorem pack_any (m : M) (A7 : Option Addr) (g7 : Nat) (A8 : Option Addr) (g8 : Nat) (A9 : Option Addr) (g9 : Nat) (A10 : Option Addr) (g10 : Nat) (A11 : Option Addr) (g11 : Nat) (b c tb : Nat) (w : World) (hm : HasM m A7 g7 A8 g8 A9 g9 A10 g10 A11 g11 w) (hs : SmM m) (hc : MCod w b c tb) :
    Calls Try.prog 10 #[.pointer (some ⟨b, 0, none⟩), .agg #[.int .u8 m.kind, .int .u8 m.fr, .int .u8 m.dst, .int .u32 m.id, .int .u8 m.tg, .int .u8 m.rg, .bool m.flag, .slice A7 m.news.length g7, .slice A8 m.keys.length g8, .slice A9 m.recs.length g9, .slice A10 m.seen.length g10, .slice A11 m.digs.length g11]] w fun e w' => e = .returned (.tuple #[.string (packS m), .int .i64 (packE m)]) ∧ Sum.IsTab w' tb ∧ Chg (fun x => x = tb) w w' := by
  unfold packS packE
  cases hy : mayM m
  · refine (pack_no m A7 g7 A8 g8 A9 g9 A10 g10 A11 g11 b c tb w hm hs hc hy).mono ?_
    rintro e w' ⟨rfl, hb⟩
    exact ⟨rfl, (hc.below hb).c.t, chg_below (chg_refl _ _) hb⟩
  · rw [if_pos rfl, if_pos rfl]
    cases hf : m.flag
    · have := pack_false m A7 g7 A8 g8 A9 g9 A10 g10 A11 g11 b c tb w hm hs hc hy hf
      rw [hf] at this
      exact this
    · have := pack_true m A7 g7 A8 g8 A9 g9 A10 g10 A11 g11 b c tb w hm hs hc hy hf
      rw [hf] at this
      exact this
end Go.Proofs.Ytdjompbhlkgmbaa.Msg
end
section
/- The chapter's example: the walk (own text). -/
namespace Go.Proofs.Ytdjompbhlkgmbaa.Msg
open Go.RowKit Go.Proofs.Ytdjompbhlkgmbaa.Mem Go.Proofs.YtdjompbhlkgmbaaW.PrintWords Go.Proofs.YtdjompbhlkgmbaaW.PrintLast Go.Proofs.YtdjompbhlkgmbaaW.PrintMore
open Go.Proofs.Ytdjompbhlkgmbaa.Frame (ext_by by_sub size_sub preB_size encB_size by_enc_pre dec_enc encS encE encB preB mayF decR)
set_option linter.unusedVariables false
set_option linter.unusedSimpArgs false
def m0 : M := ⟨1, 2, 3, 0, 0, 0, false, [], [], [], [], []⟩
theorem body0 : bodyB m0 = zB := by kernel_rfl
theorem may0 : mayM m0 = true := by kernel_rfl
theorem preZ : (preB 1 2 3 zB).extract 8 17 = zB := by kernel_rfl
theorem sm0 : SmM m0 := by
  constructor <;> first | (unfold isB; decide) | (intro x hx; cases hx) | decide
theorem fixEx : ∃ S : ByteArray, packS m0 = S ∧ packE m0 = 0 ∧ S.size = 21 ∧ S.extract 8 17 = zB ∧ decR S = (1, 2, 3, zB, 0) := by
  have z : zB.size = 9 := rfl
  have hm : mayF 1 2 3 = true := by decide
  have es : packS m0 = encB 1 2 3 zB := by
    unfold packS
    rw [if_pos may0, body0]
    show encS 1 2 3 zB = _
    unfold encS
    rw [if_neg (by omega), if_neg (by rw [hm]; simp)]
  have ee : packE m0 = 0 := by
    unfold packE
    rw [if_pos may0, body0]
    show encE 1 2 3 zB = _
    unfold encE
    rw [if_neg (by omega), if_neg (by rw [hm]; simp)]
  have hz := encB_size 1 2 3 zB
  refine ⟨_, es, ee, by rw [hz, z], ?_, dec_enc 1 2 3 _ hm (by omega)⟩
  refine Eq.trans ?_ preZ
  refine ext_by (by rw [size_sub _ _ _ (by omega), size_sub _ _ _ (by rw [preB_size]; omega)]) (fun i hi => ?_)
  rw [size_sub _ _ _ (by omega)] at hi
  rw [by_sub _ 8 17 i (by omega) (by omega), by_sub _ 8 17 i (by omega) (by rw [preB_size]; omega), by_enc_pre (by omega)]
set_option maxRecDepth 100000 in
set_option maxHeartbeats 2000000 in
theorem fixed_any (w : World) : Calls Try.prog 8 #[] w fun e w' => e = .returned (.bool true) ∧ Below w.heap.size w w' := by
  obtain ⟨S, es, ee, hz, hx, hd⟩ := fixEx
  have h1 : ∀ (b c tb : Nat) (W : World) (h : MCod W b c tb), Calls Try.prog 10 #[.pointer (some ⟨b, 0, none⟩), .agg #[.int .u8 1, .int .u8 2, .int .u8 3, .int .u32 0, .int .u8 0, .int .u8 0, .bool false, .slice none 0 0, .slice none 0 0, .slice none 0 0, .slice none 0 0, .slice none 0 0]] W fun e w' => e = .returned (.tuple #[.string S, .int .i64 0]) ∧ Sum.IsTab w' tb ∧ Chg (fun x => x = tb) W w' := fun b c tb W h => by
    have := pack_any m0 none 0 none 0 none 0 none 0 none 0 b c tb W ⟨Kd.C_nil _ _, Nat.le_refl 0, Kd.C_nil _ _, Nat.le_refl 0, Kd.C_nil _ _, Nat.le_refl 0, Kd.C_nil _ _, Nat.le_refl 0, Kd.C_nil _ _, Nat.le_refl 0⟩ sm0 h
    rw [es, ee] at this
    exact this
  have H1 := Lib.hid h1
  have H2 := Lib.hid (fun (b c tb : Nat) (W : World) (h : MCod W b c tb) => unpackZ b c tb S W h (by omega) hd)
  have hsl : ∀ W : World, (Instr.slice 9 (.string S) (some (.int .i64 8)) (some (.int .i64 17)) none).run Try.prog W = .ok (.string ⟨#[0, 0, 0, 0, 0, 0, 0, 0, 0]⟩) W := fun W => by
    rw [show (⟨#[0, 0, 0, 0, 0, 0, 0, 0, 0]⟩ : ByteArray) = zB from rfl, ← hx]
    go_simp
  have hz9 : ((S.size : Int) == 21) = true := beq_iff_eq.2 (by omega)
  clear h1 es ee hd hx
  go_enter Try.func8, Try.ntmps8
  go_wp2_with (fail)
  refine (mnew _).mono ?_
  rintro e w1 ⟨b, c, tb, rfl, hc, g1, g2, g3, g4, g5, g6, b1⟩
  have HC := Lib.hid hc
  have HB := Lib.hid b1
  clear hc b1
  go_wp2_with (go_at_call 10; (with_reducible refine (H1.out b c tb _ HC.out).mono ?_); rintro e w2 ⟨rfl, t2, k2⟩; have HC2 := Lib.hid (HC.out.chg t2 k2); have HB2 := Lib.hid (below_chg HB.out k2 (fun i h => by omega)); clear t2 k2 HC HB H1)
  refine (H2.out b c tb _ HC2.out).mono ?_
  rintro e w3 ⟨rfl, t2, k2⟩
  have HB3 := Lib.hid (below_chg HB2.out k2 (fun i h => by omega))
  clear t2 k2 HC2 HB2 H2
  go_upto_region 4 with (fail)
  have ex1 : (w3.alloc (.cells #[.int .u8 1, .int .u8 2, .int .u8 3, .int .u32 0, .int .u8 0, .int .u8 0, .bool false, .slice none 0 0, .slice none 0 0, .slice none 0 0, .slice none 0 0, .slice none 0 0] 29)).cell? ⟨w3.heap.size, 1, none⟩ = some (.int .u8 2) := (blk_cell (blk_new w3 (.cells #[.int .u8 1, .int .u8 2, .int .u8 3, .int .u32 0, .int .u8 0, .int .u8 0, .bool false, .slice none 0 0, .slice none 0 0, .slice none 0 0, .slice none 0 0, .slice none 0 0] 29)) 1).trans rfl
  replace HB3 := Lib.hid (below_alloc HB3.out (.cells #[.int .u8 1, .int .u8 2, .int .u8 3, .int .u32 0, .int .u8 0, .int .u8 0, .bool false, .slice none 0 0, .slice none 0 0, .slice none 0 0, .slice none 0 0, .slice none 0 0] 29))
  generalize w3.alloc (.cells #[.int .u8 1, .int .u8 2, .int .u8 3, .int .u32 0, .int .u8 0, .int .u8 0, .bool false, .slice none 0 0, .slice none 0 0, .slice none 0 0, .slice none 0 0, .slice none 0 0] 29) = w4 at *
  generalize w3.heap.size = z4 at *
  go_wp2_with (fail)
  go_ret
  exact ⟨rfl, HB3.out⟩
end Go.Proofs.Ytdjompbhlkgmbaa.Msg
end
section
/- A row of bytes of one's own that began as '[]byte(s)' (the model marks the place behind its last cell) or not: read, kept, appended to (own text, after the kit's laws of rows without a mark). -/
namespace Go.Proofs.Ytdjompbhlkgmbaa.BRow
open Go.RowKit Go.Proofs.YtdjompbhlkgmbaaW.PrintWords
set_option linter.unusedVariables false
set_option linter.unusedSimpArgs false
/-- v's n elements (one cell each) are xs; its row is one of the call's own; no cell from n on is frozen. -/
def Own (w : World) (base : Nat) (e : TypeId) (v : Value) (n : Nat) (xs : List Value) : Prop :=
  xs.length = n ∧ ((v = .slice none 0 0 ∧ n = 0) ∨
    ∃ g cap cur, ∃ fz : Nat × Nat, v = .slice (some ⟨g, 0, none⟩) n cap ∧ base ≤ g ∧ w.heap[g]? = some (.cells cur e fz) ∧ (fz.2 ≤ n ∨ cap ≤ fz.1) ∧ n ≤ cap ∧ cap ≤ maxLen ∧ cur.size = cap ∧ cur.toList.take n = xs)
section
variable {w w1 : World} {base : Nat} {e : TypeId} {v : Value} {n : Nat} {xs : List Value}
theorem own_of (h : w.ownsRow base e 1 v n xs) : Own w base e v n xs := by
  obtain ⟨h1, h2⟩ := h
  refine ⟨by omega, ?_⟩
  rcases h2 with h2 | ⟨g, cap, cur, hv, hb, hg, h3, h4, h5, h6⟩
  · exact .inl h2
  · exact .inr ⟨g, cap, cur, (0, 0), hv, hb, hg, .inl (Nat.zero_le _), h3, h4, by omega, by simpa using h6⟩
theorem own_lt (h : Own w base e v n xs) : ∀ k, v.ownBlock = some k → base ≤ k ∧ k < w.heap.size ∧ ∃ cur fz, w.heap[k]? = some (.cells cur e fz) := by
  intro k hk
  rcases h.2 with ⟨rfl, _⟩ | ⟨g, cap, cur, fz, rfl, hb, hg, _⟩
  · simp [Value.ownBlock] at hk
  · simp [Value.ownBlock] at hk
    subst hk
    exact ⟨hb, (Array.getElem?_eq_some_iff.1 hg).1, cur, fz, hg⟩
theorem own_move (h : Own w base e v n xs) (hm : ∀ k, v.ownBlock = some k → w1.heap[k]? = w.heap[k]?) : Own w1 base e v n xs := by
  refine ⟨h.1, ?_⟩
  rcases h.2 with h2 | ⟨g, cap, cur, fz, rfl, hb, hg, rest⟩
  · exact .inl h2
  · exact .inr ⟨g, cap, cur, fz, rfl, hb, (hm g rfl).trans hg, rest⟩
theorem own_cells (h : Own w base e v n xs) {g : Nat} (hg : v.ownBlock = some g) : ∀ j u, xs[j]? = some u → w.cell? ((⟨g, 0, none⟩ : Addr).add j) = some u := by
  intro j u hu
  rcases h.2 with ⟨rfl, _⟩ | ⟨g', cap, cur, fz, rfl, _, hgg, _, _, _, _, htake⟩
  · simp [Value.ownBlock] at hg
  · simp [Value.ownBlock] at hg
    subst hg
    have hadd : (⟨g', 0, none⟩ : Addr).add j = ⟨g', j, none⟩ := by unfold Addr.add; split <;> simp_all
    rw [hadd, cell_of_row w g' j cur e fz hgg]
    rw [← htake, List.getElem?_take] at hu
    split at hu
    · simpa using hu
    · cases hu
end
/-- Cells laid from a place on where nothing is frozen. -/
theorem run_lay (P : Program) (g o : Nat) (t : TypeId) (fz : Nat × Nat) : ∀ (vs : List Value) (i : Nat) (cur : Array Value) (w : World), w.heap[g]? = some (.cells cur t fz) → (fz.2 ≤ o + i ∨ cur.size ≤ fz.1) → o + i + vs.length ≤ cur.size → (∀ v ∈ vs, v.oneCell' = true) →
    (storeCells ⟨g, o, none⟩ vs i).run P w = .ok () (w.setRow g (cur.toList.take (o + i) ++ vs ++ cur.toList.drop (o + i + vs.length)).toArray)
  | [], i, cur, w, hg, _, _, _ => by
    simp only [storeCells, List.append_nil, List.length_nil, Nat.add_zero, List.take_append_drop, Array.toArray_toList]
    rw [setRow_self w g cur t fz hg]
    rfl
  | v :: rest, i, cur, w, hg, hfz, hl, h1 => by
    have hi : o + i < cur.size := by simp at hl; omega
    have hadd : (⟨g, o, none⟩ : Addr).add i = ⟨g, o + i, none⟩ := by unfold Addr.add; split <;> simp_all
    have hcell : w.cell? ⟨g, o + i, none⟩ = some cur[o + i] := by simp [World.cell?, hg, hi]
    have hfro : w.frozen? ⟨g, o + i, none⟩ = false := by
      obtain ⟨lo, hi'⟩ := fz
      simp only [World.frozen?, hg, Bool.and_eq_false_iff, decide_eq_false_iff_not]
      simp only at hfz
      omega
    have hst : (store ((⟨g, o, none⟩ : Addr).add i) v).run P w = .ok () (w.setRow g (cur.setIfInBounds (o + i) v)) := by
      rw [hadd, run_store P w _ v _ (h1 v (by simp)), hcell]
      simp [hfro, setCell_eq_setRow w g (o + i) cur t fz v hg]
    have ih := run_lay P g o t fz rest (i + 1) (cur.setIfInBounds (o + i) v) (w.setRow g (cur.setIfInBounds (o + i) v)) (setRow_heap w g cur _ t _ hg) (by rw [Array.size_setIfInBounds]; omega) (by simp at hl ⊢; omega) (fun x hx => h1 x (by simp [hx]))
    simp only [storeCells, Sem.run_bind, hst, Result.andThen_ok, ih, setRow_setRow]
    congr 3
    have e := list_seg_step cur.toList (o + i) v rest (by simp at hl ⊢; omega)
    simpa [Array.toList_setIfInBounds, Nat.add_assoc] using e
section
variable {P : Program} (w : World)
theorem run_app_one (base : Nat) (t ty e : TypeId) (i : TypeInfo) (z : Value) (ht : P.underlying t = some (.slice e)) (hi : P.info? e = some i) (hz : i.zero = some z) (hsize : i.size = 1) (hby : i.bytes = 1) (hzs : z.cells.size = 1)
    (v : Value) (n : Nat) (xs : List Value) (hown : Own w base e v n xs) (a : Addr) (u0 : Value) (hnew : w.cell? (a.add 0) = some u0) (h1 : u0.oneCell' = true)
    (h63 : n + 1 ≤ maxLen) (hbytes : n + 1 ≤ 140737488355328) (hbase : base ≤ w.heap.size) :
    ∃ v' w', (Builtin.append_ #[t, t] ty #[v, .slice (some a) 1 1]).run P w = .ok v' w' ∧ Own w' base e v' (n + 1) (xs ++ [u0]) ∧ w.grownBy w' v.ownBlock ∧ (v'.ownBlock = v.ownBlock ∨ v'.ownBlock = some w.heap.size) := by
  have hnews : ∀ j u, [u0][j]? = some u → w.cell? (a.add j) = some u := by
    intro j u hj
    cases j with
    | zero => simp at hj; subst hj; exact hnew
    | succ j => simp at hj
  have hone : ∀ u ∈ [u0], u.oneCell' = true := by intro u hu; rw [List.mem_singleton] at hu; subst hu; exact h1
  rcases hown.2 with ⟨rfl, rfl⟩ | ⟨g, cap, cur, fz, rfl, hbg, hg, hfz, hnc, hcm, hcs, htake⟩
  · obtain ⟨v', w', h1, h2, h3, h4, h5⟩ := run_append_own_at (P := P) w base t ty e i z 1 1 ht hi hz hsize hby hzs (by omega) (.slice none 0 0) 0 xs ⟨by have := hown.1; omega, .inl ⟨rfl, rfl⟩⟩ a 1 1 [u0] rfl hnews hone h63 (by omega) hbase
    exact ⟨v', w', h1, own_of h2, h3, h5⟩
  · have hsmall : n + 1 ≤ 9223372036854775807 := by simp only [maxLen] at h63; omega
    have hxl : xs.length = n := hown.1
    have hlen : (xs ++ [u0]).length = n + 1 := by rw [List.length_append, hxl]; rfl
    by_cases hroom : n + 1 ≤ cap
    · have hf := run_firstCells_some (P := P) w i.size 1 a 1 1 [u0] (by rw [hsize]; rfl) hnews
      have hst := run_lay P g n e fz [u0] 0 cur w hg (by rw [Nat.add_zero, hcs]; exact hfz) (by show n + 0 + 1 ≤ cur.size; omega) hone
      simp only [Nat.add_zero] at hst
      have hr : (Builtin.append_ #[t, t] ty #[.slice (some ⟨g, 0, none⟩) n cap, .slice (some a) 1 1]).run P w =
          .ok (.slice (some ⟨g, 0, none⟩) (n + 1) cap) (w.setRow g (cur.toList.take n ++ [u0] ++ cur.toList.drop (n + 1)).toArray) := by
        rw [hsize] at hf
        have e1 : n + [u0].length = n + 1 := rfl
        rw [e1] at hst
        simp [Builtin.append_, run_underlying ht, sizeOf, typeInfo, hi, hsize, Builtin.lenOf, hroom, hf, Addr.add_lit, hst]
      refine ⟨_, _, hr, ⟨hlen, .inr ⟨g, cap, _, fz, rfl, hbg, setRow_heap w g cur _ e _ hg, by omega, hroom, hcm, ?_, ?_⟩⟩, ⟨rfl, rfl, rfl, by simp, fun k _ hk => setRow_other w g k _ (fun e => hk (by simp [Value.ownBlock, e]))⟩, .inl rfl⟩
      · simp only [List.size_toArray, List.length_append, List.length_take, List.length_drop, Array.length_toList, List.length_singleton]
        omega
      · rw [htake, ← hlen]
        exact List.take_left
    · have holds : ∀ j u, xs[j]? = some u → w.cell? ((⟨g, 0, none⟩ : Addr).add j) = some u := own_cells hown (g := g) rfl
      have hr := run_append_grow (P := P) w t ty e i z ht hi hz ⟨g, 0, none⟩ n cap xs (by rw [hsize]; omega) holds a 1 1 [u0] (by rw [hsize]; rfl) hnews (by omega) (by omega) (growslice_fits (by omega) (by rw [hby]; omega))
      have hge := grownCap_ge w (n + 1) cap e
      have hcm2 : grownCap w (n + 1) cap e ≤ maxLen := grownCap_le_maxLen w (n + 1) cap e h63
      refine ⟨_, _, hr, ⟨hlen, .inr ⟨w.heap.size, _, _, (0, 0), rfl, hbase, heap_alloc_new w.drew _, .inl (Nat.zero_le _), hge, hcm2, ?_, ?_⟩⟩, ⟨rfl, rfl, rfl, by simp, fun k hk _ => heap_alloc_old w.drew _ hk⟩, .inr rfl⟩
      · simp only [Array.size_append, List.size_toArray, size_zeroCells, hzs, hxl, List.length_singleton]
        omega
      · simp only [Array.toList_append, List.append_assoc]
        rw [← List.append_assoc, ← hlen]
        exact List.take_left
end
/-! ### the row as a list of numbers -/
def R (e : Nat) (w : World) (base : Nat) (ok : Nat → Prop) (v : Value) (xs : List Int) : Prop := (∀ k, v.ownBlock = some k → ok k) ∧ Own w base e v xs.length (nums .u8 xs)
section
variable {e : Nat} {w w1 : World} {base : Nat} {ok ok' : Nat → Prop} {v : Value} {xs : List Int}
theorem own_of_R (h : R e w base ok v xs) : Own w base e v xs.length (nums .u8 xs) := h.2
theorem R_mono (h : R e w base ok v xs) (hok : ∀ k, ok k → ok' k) : R e w base ok' v xs := ⟨fun k hk => hok k (h.1 k hk), h.2⟩
theorem R_step (h : R e w base ok v xs) (hm : ∀ k, ok k → k < w.heap.size → w1.heap[k]? = w.heap[k]?) : R e w1 base ok v xs :=
  ⟨h.1, own_move h.2 (fun k hk => hm k (h.1 k hk) (own_lt h.2 k hk).2.1)⟩
end
theorem own_string {P : Program} {w : World} {base n : Nat} {e' src dst e : TypeId} {v : Value} {xs : List Int} (hs : P.underlying src = some (.slice e)) (he : P.underlying e = some (.int .u8)) (hd : P.underlying dst = some .string)
    (h : Own w base e' v n (nums .u8 xs)) : (convert src dst v).run P w = .ok (.string (strOfNums xs)) w := by
  have hl : xs.length = n := by have := h.1; simp [nums] at this; exact this
  rcases h.2 with ⟨rfl, rfl⟩ | ⟨g, cap, cur, fz, rfl, _⟩
  · obtain rfl : xs = [] := List.eq_nil_of_length_eq_zero hl
    exact run_convert_bytes_nil w src e hs he 0 0 dst hd
  · refine run_convert_bytes_arg w src e hs he g 0 n cap xs hl (fun i hi => ?_) dst hd
    have hc := own_cells h (g := g) rfl i (.int .u8 (xs.getD i 0)) (by simp [nums, List.getElem?_eq_getElem (show i < xs.length by omega), List.getD_eq_getElem?_getD])
    have ha : (⟨g, 0, none⟩ : Addr).add i = ⟨g, 0 + i, none⟩ := by unfold Addr.add; split <;> simp_all
    rwa [ha] at hc
section
variable {P : Program} {ops : Array Oper} {rest : List Oper} {o : Oper} {a : Act} {Q : Exit → Act → World → Prop} {Kc : Act → World → Prop}
theorem own_base' {w : World} {base e n : Nat} {v : Value} {xs : List Value} (h : Own w base e v n xs) : ∀ k, v.ownBlock = some k → base ≤ k := fun k hk => (own_lt h k hk).1
theorem R_append {w0 W : World} (base : Nat) (hgd : o.guard = none) (s x : Operand) (t e : TypeId) (z : Value) (bytes : Nat)
    (ho : o.op = .call { callee := .builtin .append, args := #[s, x], argTypes := #[t, t] })
    (ht : P.underlying t = some (.slice e)) (hinfo : (P.info? e).map (fun i => (i.zero, i.size, i.bytes)) = some (some z, 1, 1)) (hz : z.cells.size = 1) (hs0 : 0 < 1) (hb0 : 0 < bytes)
    (v : Value) (xs : List Int) (p : Int) (cs : List Value) (ok okp : Nat → Prop) (hs : a.eval s = v) (hx : a.eval x = .slice (some ⟨W.heap.size, 0, none⟩) 1 1) (hp : cs = [.int .u8 p]) (hokp : ∀ k, okp k → ok k ∧ some k ≠ v.ownBlock) (hfresh : ∀ k, W.heap.size ≤ k → ok k)
    (HO : R e W base ok v xs) (HB : Below base w0 W) (hbase : base ≤ W.heap.size) (hl : (xs.length + 1) * bytes ≤ 140737488355328)
    (h : ∀ v1 w1, R e w1 base ok v1 (xs ++ [p]) → Below base w0 w1 → W.grownBy w1 v.ownBlock → (v1.ownBlock = v.ownBlock ∨ ∃ b, v1.ownBlock = some b ∧ W.heap.size ≤ b) → wpList P ops Q rest (a.put o.dst v1) w1) :
    wpList P ops Q (o :: rest) a (W.alloc (.cells cs.toArray e)) := by
  subst hp
  obtain ⟨i0, hi, hz0, hz1, hz2⟩ := info_parts hinfo
  refine wpList_plain hgd fun K hK => ?_
  have hl1 : xs.length + 1 ≤ 140737488355328 := Nat.le_trans (Nat.le_mul_of_pos_right _ hb0) hl
  have hO1 : Own (W.alloc (.cells [Value.int .u8 p].toArray e)) base e v xs.length (nums .u8 xs) := own_move HO.2 (fun k hk => heap_alloc_old W _ (own_lt HO.2 k hk).2.1)
  obtain ⟨v', w', hr, h2, h3, h4⟩ := run_app_one (P := P) (W.alloc (.cells [Value.int .u8 p].toArray e)) base t o.type e i0 z ht hi hz0 hz1 hz2 hz v xs.length (nums .u8 xs) hO1 ⟨W.heap.size, 0, none⟩ (.int .u8 p)
    (by have := World.news_of_block (cs := #[Value.int .u8 p]) (t := e) (fr := (0, 0)) (heap_alloc_new W (.cells #[Value.int .u8 p] e)) 0 (.int .u8 p) rfl; exact this) rfl (by simp only [maxLen]; omega) hl1 (by simp; omega)
  unfold Oper.wp execOp
  simp only [ho, resolve, invoke, builtin, Sem.run_bind, Sem.run_pure, Result.andThen_ok, List.map_toArray, List.map_cons, List.map_nil, hs, hx, hr]
  refine hK _ _ (h v' w' ⟨fun k hk => ?_, ?_⟩ ((HB.alloc hbase _).grown h3 (by simp; omega) (own_base' HO.2)) (World.grownBy.trans (World.grownBy_alloc W _ _) h3) ?_)
  · rcases h4 with h4 | h4
    · exact HO.1 k (h4 ▸ hk)
    · rw [h4] at hk
      injection hk with hk
      refine hfresh k ?_
      rw [← hk]
      simp
  · have e1 : (xs ++ [p]).length = xs.length + 1 := by rw [List.length_append]; rfl
    rw [e1, nums_append]
    exact h2
  · rcases h4 with h4 | h4
    · exact .inl h4
    · exact .inr ⟨_, h4, by simp⟩
/-! ### '[]byte(s)' -/
end
end Go.Proofs.Ytdjompbhlkgmbaa.BRow
end
section
/- Printed by a program of this session over its told contracts; mended by wip/tools/fixmsg.py. -/
namespace Go.Proofs.Ytdjompbhlkgmbaa.PMsg
open Go.RowKit Go.Proofs.YtdjompbhlkgmbaaW.PrintWords Go.Proofs.YtdjompbhlkgmbaaW.PrintLast Go.Proofs.YtdjompbhlkgmbaaW.PrintMore
attribute [local go_sem] max2_int min2_int max_two min_two max_three min_three max_four min_four   -- for this text's walks alone
set_option linter.unusedVariables false
set_option linter.unusedSimpArgs false

/-! ### tattlerref22_Body: function 26 -/
def tattlerref22_Body.T1 : Bool × List (List Nat × List Nat) := (true, [([], []), ([0], [0]), ([1], [1]), ([2], [2]), ([], []), ([4], [4]), ([5], [5]), ([6, 3], [6]), ([3, 7], [3, 7]), ([], []), ([9], [9]), ([10], [10]), ([11, 7], [11]), ([8, 12], [8, 12]), ([13], [13]), ([14, 12, 0, 1, 2, 3, 4, 5, 6, 7, 8, 9, 10, 11, 12, 13, 14], [14])])
def tattlerref22_Body.B10 : List Nat := [0, 0, 2, 6, 14, 0, 32, 96, 224, 510, 1022, 0, 2048, 6144, 14336, 31742, 65534, 131071, 262143]
end Go.Proofs.Ytdjompbhlkgmbaa.PMsg
end

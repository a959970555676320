/- What the row needs, laid together out of MsgAll, PFrameDecodesx0, FrameP1, FrameP2, FrameP3, SumPlain, SumApp, SumRef, Once, SumFill, SumOnce, SumProg, SumNew, SumKeep, SumByte, FramePlain, FrameRef (own texts and texts printed for this seat; wip/tools/group.py). -/
import Derived.Test.YtdjompbhlkgmbaaGB1
import Derived.Test.YtdjompbhlkgmbaaGB2
import Derived.Test.YtdjompbhlkgmbaaGB3
import Derived.Deep.Cut
import Derived.Test.YtdjompbhlkgmbaaProg
import Derived.Below
import Derived.Deep.Draws
import Derived.Deep.AppendLies
import Derived.Maps.AppendAt
import Derived.OwnWalk
import Derived.Laws.BytesArg
import Derived.Laws.MakeOwn
import Derived.Laws.OwnMore
import Derived.Deep.OwnRows
import Derived.Tactics
import Derived.Lib.ConvBytes
import Derived.Laws.Slices
import Derived.WalkKit
import Derived.KernelRfl
import Derived.RowKit3
import Derived.Deep.LoopGhost
import Derived.Deep.QuietTactic
import Derived.BigQuiet
import Derived.WideLaws
import Derived.Deep.DeepCutAuto
import Derived.Deep.CutBlock
import Derived.Deep.RegionHeld3
import Derived.Laws.Rows
import Derived.Lib.AppendStr
import Derived.ArgAppend
import Derived.Laws.IdiomCopy
import Derived.OrdersHeld
import Derived.Laws.BitsLemmas
import Derived.RowKit
import Derived.Laws.BitsAllLaws
import Derived.Tactics2
import Derived.Defers
import Derived.Laws.Pointers
import Derived.Laws.LoneSync
import Derived.RegionTactic
import Derived.RegionCalls
import Derived.Deep.WholeRow
import Derived.Lib.SlBytesRow
section
/- msg.all at its four types (own text; written by wip/tools/gen_msgall.py). -/
namespace Go.Proofs.Ytdjompbhlkgmbaa.Msg
open Go.RowKit Go.Proofs.YtdjompbhlkgmbaaW.PrintWords Go.Proofs.YtdjompbhlkgmbaaW.PrintLast Go.Proofs.YtdjompbhlkgmbaaW.PrintMore Go.Proofs.Ytdjompbhlkgmbaa.PMsg
set_option linter.unusedVariables false
set_option linter.unusedSimpArgs false
def allB {α : Type} (p : α → Bool) (l : List α) : Bool := l.all p && decide (l.length ≤ 4096)
set_option maxRecDepth 100000 in
set_option maxHeartbeats 8000000 in
theorem all72_c (A : Option Addr) (c : Nat) (l : List S72) (w : World) (p : S72 → Bool) (hr : Kd.C k72 w A l.length l) (hc : l.length ≤ c) (hn : l.length ≤ 5000)
    (hp : ∀ x, x ∈ l → ∀ W : World, Calls Try.prog 55 #[.agg #[.int .u8 x.f0, .int .u8 x.f1.f0, .int .u32 x.f1.f1]] W fun e w' => e = .returned (.bool (p x)) ∧ Below W.heap.size W w') :
    Calls Try.prog 54 #[.slice A l.length c, .func (.func 55) #[] #[]] w fun e w' => e = .returned (.bool (allB p l)) ∧ Below w.heap.size w w' := by
  have HR0 := Lib.hid hr
  have HP := Lib.hid hp
  have hu30 := Try.underlying72
  have hl9 : (l.length : Int) ≤ 5000 := by omega
  clear hr hp
  obtain ⟨n, hnn⟩ : ∃ n, n = l.length := ⟨_, rfl⟩
  rw [← hnn] at hc hl9 ⊢
  have HNN := Lib.hid hnn
  clear hnn hn
  go_enter Try.func54, Try.ntmps54
  go_wp2_with (fail)
  go_loopw [9] (fun v9 w' => ∃ (i : Nat) (y : Int), i ≤ n ∧ v9 = .int .i64 y ∧ Hid (y = (i : Int)) ∧ Hid ((l.take i).all p = true) ∧ Hid (Below w.heap.size w w')) (fun v _ => n - (intOf v).toNat)
  case atStart => exact ⟨0, 0, Nat.zero_le _, rfl, Lib.hid rfl, Lib.hid rfl, Lib.hid (Below.refl _ _)⟩
  case round =>
    obtain ⟨i, y, hi, rfl, HY, HA, HB⟩ := hrel
    by_cases hlt : i < n
    · have hil : i < l.length := by rw [← HNN.out]; exact hlt
      have p157 : 0 ≤ y := by have := HY.out; omega
      have q157 : y < (n : Int) := by have := HY.out; omega
      have vj : IntKind.i64.wrap (y + 1) = y + 1 := IntWalk.i64_in _ ⟨by omega, by omega⟩
      obtain ⟨ad, e157, hx0, hx1, hx2⟩ := at_T72 HR0.out y p157 (by rw [← HNN.out]; exact q157)
      cases e157
      replace hx0 := (HB.out.cell (World.block_lt_of_cell? w _ hx0)).trans hx0
      replace hx1 := (HB.out.cell (World.block_lt_of_cell? w _ hx1)).trans hx1
      replace hx2 := (HB.out.cell (World.block_lt_of_cell? w _ hx2)).trans hx2
      have e0 : rd_T72 l y = l[i] := by
        rw [show y = (i : Int) from HY.out]; unfold rd_T72; rw [Int.toNat_natCast, List.getD_eq_getElem?_getD, List.getElem?_eq_getElem hil]; rfl
      have CP := Lib.hid (show ∀ W : World, Calls Try.prog 55 #[.agg #[.int .u8 (rd_T72 l y).f0, .int .u8 (rd_T72 l y).f1.f0, .int .u32 (rd_T72 l y).f1.f1]] W fun e w' => e = .returned (.bool (p (rd_T72 l y))) ∧ Below W.heap.size W w' from by rw [e0]; exact HP.out _ (List.getElem_mem hil))
      have HA1 := Lib.hid (show (l.take (i + 1)).all p = p (rd_T72 l y) from by
        rw [e0, List.take_succ_eq_append_getElem hil, List.all_append, HA.out]
        simp)
      have HA2 := Lib.hid (show p (rd_T72 l y) = false → allB p l = false from fun h => by
        rw [e0] at h
        unfold allB
        have : l.all p = false := by
          rw [List.all_eq_false]
          exact ⟨l[i], List.getElem_mem hil, by rw [h]; exact Bool.false_ne_true⟩
        rw [this, Bool.false_and])
      clear e0 hil
      generalize rd_T72 l y = x at *
      have hq0 : (0 ≤ y) = True := eq_true p157
      have hq1 : (y < (n : Int)) = True := eq_true q157
      go_upto_region 4 with (fail)
      have AZ := Lib.hid (blk_new wr (.cells #[.int .u8 x.f0, .int .u8 x.f1.f0, .int .u32 x.f1.f1] 72))
      have HB2 := Lib.hid (below_step HB.out (below_alloc (Below.refl _ _) (.cells #[.int .u8 x.f0, .int .u8 x.f1.f0, .int .u32 x.f1.f1] 72)))
      clear HB hx0 hx1 hx2
      generalize wr.alloc (.cells #[.int .u8 x.f0, .int .u8 x.f1.f0, .int .u32 x.f1.f1] 72) = w2 at *
      generalize wr.heap.size = z at *
      have ez0 : w2.cell? ⟨z, 0, none⟩ = some (.int .u8 x.f0) := (blk_cell AZ.out 0).trans rfl
      have ez1 : w2.cell? ⟨z, 1, none⟩ = some (.int .u8 x.f1.f0) := (blk_cell AZ.out 1).trans rfl
      have ez2 : w2.cell? ⟨z, 2, none⟩ = some (.int .u32 x.f1.f1) := (blk_cell AZ.out 2).trans rfl
      cases hpx : p x
      · rw [hpx] at CP HA1
        have HA3 := Lib.hid (HA2.out hpx)
        clear HA2 hpx HA
        go_wp2_with (go_at_call 55; (with_reducible refine (CP.out _).mono ?_); rintro e w3 ⟨rfl, hb3⟩; have HB3 := Lib.hid (below_step HB2.out hb3); clear hb3 HB2)
        go_ret
        exact ⟨by rw [HA3.out]; rfl, HB3.out⟩
      · rw [hpx] at CP HA1
        clear HA2 hpx HA
        go_wp2_with (go_at_call 55; (with_reducible refine (CP.out _).mono ?_); rintro e w3 ⟨rfl, hb3⟩; have HB3 := Lib.hid (below_step HB2.out hb3); clear hb3 HB2)
        exact ⟨⟨i + 1, y + 1, by omega, rfl, Lib.hid (by have := HY.out; omega), HA1, HB3⟩, by have := HY.out; simp [intOf]; omega⟩
    · obtain rfl : i = n := by omega
      have hq2 : decide (y < (i : Int)) = false := decide_eq_false (by have := HY.out; omega)
      have HL := Lib.hid (show allB p l = decide ((i : Int) ≤ 4096) from by
        have h1 := HA.out
        rw [HNN.out, List.take_length] at h1
        unfold allB
        rw [h1, Bool.true_and, ← HNN.out]
        by_cases hh : i ≤ 4096
        · rw [decide_eq_true hh, decide_eq_true (by omega)]
        · rw [decide_eq_false hh, decide_eq_false (by omega)])
      go_wp2_with (fail)
      go_ret
      exact ⟨by rw [HL.out]; rfl, HB.out⟩
set_option maxRecDepth 100000 in
set_option maxHeartbeats 8000000 in
theorem all54_c (A : Option Addr) (c : Nat) (l : List S54) (w : World) (p : S54 → Bool) (hr : Kd.C k54 w A l.length l) (hc : l.length ≤ c) (hn : l.length ≤ 5000)
    (hp : ∀ x, x ∈ l → ∀ W : World, Calls Try.prog 59 #[.agg #[.string x.f0, .int .u64 x.f1.f0, .int .u32 x.f1.f1, .int .u8 x.f1.f2, .int .u8 x.f2, .int .u32 x.f3, .int .u64 x.f4, .string x.f5]] W fun e w' => e = .returned (.bool (p x)) ∧ Below W.heap.size W w') :
    Calls Try.prog 58 #[.slice A l.length c, .func (.func 59) #[] #[]] w fun e w' => e = .returned (.bool (allB p l)) ∧ Below w.heap.size w w' := by
  have HR0 := Lib.hid hr
  have HP := Lib.hid hp
  have hu30 := Try.underlying54
  have hl9 : (l.length : Int) ≤ 5000 := by omega
  clear hr hp
  obtain ⟨n, hnn⟩ : ∃ n, n = l.length := ⟨_, rfl⟩
  rw [← hnn] at hc hl9 ⊢
  have HNN := Lib.hid hnn
  clear hnn hn
  go_enter Try.func58, Try.ntmps58
  go_wp2_with (fail)
  go_loopw [9] (fun v9 w' => ∃ (i : Nat) (y : Int), i ≤ n ∧ v9 = .int .i64 y ∧ Hid (y = (i : Int)) ∧ Hid ((l.take i).all p = true) ∧ Hid (Below w.heap.size w w')) (fun v _ => n - (intOf v).toNat)
  case atStart => exact ⟨0, 0, Nat.zero_le _, rfl, Lib.hid rfl, Lib.hid rfl, Lib.hid (Below.refl _ _)⟩
  case round =>
    obtain ⟨i, y, hi, rfl, HY, HA, HB⟩ := hrel
    by_cases hlt : i < n
    · have hil : i < l.length := by rw [← HNN.out]; exact hlt
      have p157 : 0 ≤ y := by have := HY.out; omega
      have q157 : y < (n : Int) := by have := HY.out; omega
      have vj : IntKind.i64.wrap (y + 1) = y + 1 := IntWalk.i64_in _ ⟨by omega, by omega⟩
      obtain ⟨ad, e157, hx0, hx1, hx2, hx3, hx4, hx5, hx6, hx7⟩ := at_T54 HR0.out y p157 (by rw [← HNN.out]; exact q157)
      cases e157
      replace hx0 := (HB.out.cell (World.block_lt_of_cell? w _ hx0)).trans hx0
      replace hx1 := (HB.out.cell (World.block_lt_of_cell? w _ hx1)).trans hx1
      replace hx2 := (HB.out.cell (World.block_lt_of_cell? w _ hx2)).trans hx2
      replace hx3 := (HB.out.cell (World.block_lt_of_cell? w _ hx3)).trans hx3
      replace hx4 := (HB.out.cell (World.block_lt_of_cell? w _ hx4)).trans hx4
      replace hx5 := (HB.out.cell (World.block_lt_of_cell? w _ hx5)).trans hx5
      replace hx6 := (HB.out.cell (World.block_lt_of_cell? w _ hx6)).trans hx6
      replace hx7 := (HB.out.cell (World.block_lt_of_cell? w _ hx7)).trans hx7
      have e0 : rd_T54 l y = l[i] := by
        rw [show y = (i : Int) from HY.out]; unfold rd_T54; rw [Int.toNat_natCast, List.getD_eq_getElem?_getD, List.getElem?_eq_getElem hil]; rfl
      have CP := Lib.hid (show ∀ W : World, Calls Try.prog 59 #[.agg #[.string (rd_T54 l y).f0, .int .u64 (rd_T54 l y).f1.f0, .int .u32 (rd_T54 l y).f1.f1, .int .u8 (rd_T54 l y).f1.f2, .int .u8 (rd_T54 l y).f2, .int .u32 (rd_T54 l y).f3, .int .u64 (rd_T54 l y).f4, .string (rd_T54 l y).f5]] W fun e w' => e = .returned (.bool (p (rd_T54 l y))) ∧ Below W.heap.size W w' from by rw [e0]; exact HP.out _ (List.getElem_mem hil))
      have HA1 := Lib.hid (show (l.take (i + 1)).all p = p (rd_T54 l y) from by
        rw [e0, List.take_succ_eq_append_getElem hil, List.all_append, HA.out]
        simp)
      have HA2 := Lib.hid (show p (rd_T54 l y) = false → allB p l = false from fun h => by
        rw [e0] at h
        unfold allB
        have : l.all p = false := by
          rw [List.all_eq_false]
          exact ⟨l[i], List.getElem_mem hil, by rw [h]; exact Bool.false_ne_true⟩
        rw [this, Bool.false_and])
      clear e0 hil
      generalize rd_T54 l y = x at *
      have hq0 : (0 ≤ y) = True := eq_true p157
      have hq1 : (y < (n : Int)) = True := eq_true q157
      go_upto_region 4 with (fail)
      have AZ := Lib.hid (blk_new wr (.cells #[.string x.f0, .int .u64 x.f1.f0, .int .u32 x.f1.f1, .int .u8 x.f1.f2, .int .u8 x.f2, .int .u32 x.f3, .int .u64 x.f4, .string x.f5] 54))
      have HB2 := Lib.hid (below_step HB.out (below_alloc (Below.refl _ _) (.cells #[.string x.f0, .int .u64 x.f1.f0, .int .u32 x.f1.f1, .int .u8 x.f1.f2, .int .u8 x.f2, .int .u32 x.f3, .int .u64 x.f4, .string x.f5] 54)))
      clear HB hx0 hx1 hx2 hx3 hx4 hx5 hx6 hx7
      generalize wr.alloc (.cells #[.string x.f0, .int .u64 x.f1.f0, .int .u32 x.f1.f1, .int .u8 x.f1.f2, .int .u8 x.f2, .int .u32 x.f3, .int .u64 x.f4, .string x.f5] 54) = w2 at *
      generalize wr.heap.size = z at *
      have ez0 : w2.cell? ⟨z, 0, none⟩ = some (.string x.f0) := (blk_cell AZ.out 0).trans rfl
      have ez1 : w2.cell? ⟨z, 1, none⟩ = some (.int .u64 x.f1.f0) := (blk_cell AZ.out 1).trans rfl
      have ez2 : w2.cell? ⟨z, 2, none⟩ = some (.int .u32 x.f1.f1) := (blk_cell AZ.out 2).trans rfl
      have ez3 : w2.cell? ⟨z, 3, none⟩ = some (.int .u8 x.f1.f2) := (blk_cell AZ.out 3).trans rfl
      have ez4 : w2.cell? ⟨z, 4, none⟩ = some (.int .u8 x.f2) := (blk_cell AZ.out 4).trans rfl
      have ez5 : w2.cell? ⟨z, 5, none⟩ = some (.int .u32 x.f3) := (blk_cell AZ.out 5).trans rfl
      have ez6 : w2.cell? ⟨z, 6, none⟩ = some (.int .u64 x.f4) := (blk_cell AZ.out 6).trans rfl
      have ez7 : w2.cell? ⟨z, 7, none⟩ = some (.string x.f5) := (blk_cell AZ.out 7).trans rfl
      cases hpx : p x
      · rw [hpx] at CP HA1
        have HA3 := Lib.hid (HA2.out hpx)
        clear HA2 hpx HA
        go_wp2_with (go_at_call 59; (with_reducible refine (CP.out _).mono ?_); rintro e w3 ⟨rfl, hb3⟩; have HB3 := Lib.hid (below_step HB2.out hb3); clear hb3 HB2)
        go_ret
        exact ⟨by rw [HA3.out]; rfl, HB3.out⟩
      · rw [hpx] at CP HA1
        clear HA2 hpx HA
        go_wp2_with (go_at_call 59; (with_reducible refine (CP.out _).mono ?_); rintro e w3 ⟨rfl, hb3⟩; have HB3 := Lib.hid (below_step HB2.out hb3); clear hb3 HB2)
        exact ⟨⟨i + 1, y + 1, by omega, rfl, Lib.hid (by have := HY.out; omega), HA1, HB3⟩, by have := HY.out; simp [intOf]; omega⟩
    · obtain rfl : i = n := by omega
      have hq2 : decide (y < (i : Int)) = false := decide_eq_false (by have := HY.out; omega)
      have HL := Lib.hid (show allB p l = decide ((i : Int) ≤ 4096) from by
        have h1 := HA.out
        rw [HNN.out, List.take_length] at h1
        unfold allB
        rw [h1, Bool.true_and, ← HNN.out]
        by_cases hh : i ≤ 4096
        · rw [decide_eq_true hh, decide_eq_true (by omega)]
        · rw [decide_eq_false hh, decide_eq_false (by omega)])
      go_wp2_with (fail)
      go_ret
      exact ⟨by rw [HL.out]; rfl, HB.out⟩
set_option maxRecDepth 100000 in
set_option maxHeartbeats 8000000 in
theorem all56_c (A : Option Addr) (c : Nat) (l : List S56) (w : World) (p : S56 → Bool) (hr : Kd.C k56 w A l.length l) (hc : l.length ≤ c) (hn : l.length ≤ 5000)
    (hp : ∀ x, x ∈ l → ∀ W : World, Calls Try.prog 61 #[.agg #[.string x.f0, .int .u64 x.f1.f0, .int .u32 x.f1.f1, .int .u8 x.f1.f2, .int .u8 x.f2]] W fun e w' => e = .returned (.bool (p x)) ∧ Below W.heap.size W w') :
    Calls Try.prog 60 #[.slice A l.length c, .func (.func 61) #[] #[]] w fun e w' => e = .returned (.bool (allB p l)) ∧ Below w.heap.size w w' := by
  have HR0 := Lib.hid hr
  have HP := Lib.hid hp
  have hu30 := Try.underlying56
  have hl9 : (l.length : Int) ≤ 5000 := by omega
  clear hr hp
  obtain ⟨n, hnn⟩ : ∃ n, n = l.length := ⟨_, rfl⟩
  rw [← hnn] at hc hl9 ⊢
  have HNN := Lib.hid hnn
  clear hnn hn
  go_enter Try.func60, Try.ntmps60
  go_wp2_with (fail)
  go_loopw [9] (fun v9 w' => ∃ (i : Nat) (y : Int), i ≤ n ∧ v9 = .int .i64 y ∧ Hid (y = (i : Int)) ∧ Hid ((l.take i).all p = true) ∧ Hid (Below w.heap.size w w')) (fun v _ => n - (intOf v).toNat)
  case atStart => exact ⟨0, 0, Nat.zero_le _, rfl, Lib.hid rfl, Lib.hid rfl, Lib.hid (Below.refl _ _)⟩
  case round =>
    obtain ⟨i, y, hi, rfl, HY, HA, HB⟩ := hrel
    by_cases hlt : i < n
    · have hil : i < l.length := by rw [← HNN.out]; exact hlt
      have p157 : 0 ≤ y := by have := HY.out; omega
      have q157 : y < (n : Int) := by have := HY.out; omega
      have vj : IntKind.i64.wrap (y + 1) = y + 1 := IntWalk.i64_in _ ⟨by omega, by omega⟩
      obtain ⟨ad, e157, hx0, hx1, hx2, hx3, hx4⟩ := at_T56 HR0.out y p157 (by rw [← HNN.out]; exact q157)
      cases e157
      replace hx0 := (HB.out.cell (World.block_lt_of_cell? w _ hx0)).trans hx0
      replace hx1 := (HB.out.cell (World.block_lt_of_cell? w _ hx1)).trans hx1
      replace hx2 := (HB.out.cell (World.block_lt_of_cell? w _ hx2)).trans hx2
      replace hx3 := (HB.out.cell (World.block_lt_of_cell? w _ hx3)).trans hx3
      replace hx4 := (HB.out.cell (World.block_lt_of_cell? w _ hx4)).trans hx4
      have e0 : rd_T56 l y = l[i] := by
        rw [show y = (i : Int) from HY.out]; unfold rd_T56; rw [Int.toNat_natCast, List.getD_eq_getElem?_getD, List.getElem?_eq_getElem hil]; rfl
      have CP := Lib.hid (show ∀ W : World, Calls Try.prog 61 #[.agg #[.string (rd_T56 l y).f0, .int .u64 (rd_T56 l y).f1.f0, .int .u32 (rd_T56 l y).f1.f1, .int .u8 (rd_T56 l y).f1.f2, .int .u8 (rd_T56 l y).f2]] W fun e w' => e = .returned (.bool (p (rd_T56 l y))) ∧ Below W.heap.size W w' from by rw [e0]; exact HP.out _ (List.getElem_mem hil))
      have HA1 := Lib.hid (show (l.take (i + 1)).all p = p (rd_T56 l y) from by
        rw [e0, List.take_succ_eq_append_getElem hil, List.all_append, HA.out]
        simp)
      have HA2 := Lib.hid (show p (rd_T56 l y) = false → allB p l = false from fun h => by
        rw [e0] at h
        unfold allB
        have : l.all p = false := by
          rw [List.all_eq_false]
          exact ⟨l[i], List.getElem_mem hil, by rw [h]; exact Bool.false_ne_true⟩
        rw [this, Bool.false_and])
      clear e0 hil
      generalize rd_T56 l y = x at *
      have hq0 : (0 ≤ y) = True := eq_true p157
      have hq1 : (y < (n : Int)) = True := eq_true q157
      go_upto_region 4 with (fail)
      have AZ := Lib.hid (blk_new wr (.cells #[.string x.f0, .int .u64 x.f1.f0, .int .u32 x.f1.f1, .int .u8 x.f1.f2, .int .u8 x.f2] 56))
      have HB2 := Lib.hid (below_step HB.out (below_alloc (Below.refl _ _) (.cells #[.string x.f0, .int .u64 x.f1.f0, .int .u32 x.f1.f1, .int .u8 x.f1.f2, .int .u8 x.f2] 56)))
      clear HB hx0 hx1 hx2 hx3 hx4
      generalize wr.alloc (.cells #[.string x.f0, .int .u64 x.f1.f0, .int .u32 x.f1.f1, .int .u8 x.f1.f2, .int .u8 x.f2] 56) = w2 at *
      generalize wr.heap.size = z at *
      have ez0 : w2.cell? ⟨z, 0, none⟩ = some (.string x.f0) := (blk_cell AZ.out 0).trans rfl
      have ez1 : w2.cell? ⟨z, 1, none⟩ = some (.int .u64 x.f1.f0) := (blk_cell AZ.out 1).trans rfl
      have ez2 : w2.cell? ⟨z, 2, none⟩ = some (.int .u32 x.f1.f1) := (blk_cell AZ.out 2).trans rfl
      have ez3 : w2.cell? ⟨z, 3, none⟩ = some (.int .u8 x.f1.f2) := (blk_cell AZ.out 3).trans rfl
      have ez4 : w2.cell? ⟨z, 4, none⟩ = some (.int .u8 x.f2) := (blk_cell AZ.out 4).trans rfl
      cases hpx : p x
      · rw [hpx] at CP HA1
        have HA3 := Lib.hid (HA2.out hpx)
        clear HA2 hpx HA
        go_wp2_with (go_at_call 61; (with_reducible refine (CP.out _).mono ?_); rintro e w3 ⟨rfl, hb3⟩; have HB3 := Lib.hid (below_step HB2.out hb3); clear hb3 HB2)
        go_ret
        exact ⟨by rw [HA3.out]; rfl, HB3.out⟩
      · rw [hpx] at CP HA1
        clear HA2 hpx HA
        go_wp2_with (go_at_call 61; (with_reducible refine (CP.out _).mono ?_); rintro e w3 ⟨rfl, hb3⟩; have HB3 := Lib.hid (below_step HB2.out hb3); clear hb3 HB2)
        exact ⟨⟨i + 1, y + 1, by omega, rfl, Lib.hid (by have := HY.out; omega), HA1, HB3⟩, by have := HY.out; simp [intOf]; omega⟩
    · obtain rfl : i = n := by omega
      have hq2 : decide (y < (i : Int)) = false := decide_eq_false (by have := HY.out; omega)
      have HL := Lib.hid (show allB p l = decide ((i : Int) ≤ 4096) from by
        have h1 := HA.out
        rw [HNN.out, List.take_length] at h1
        unfold allB
        rw [h1, Bool.true_and, ← HNN.out]
        by_cases hh : i ≤ 4096
        · rw [decide_eq_true hh, decide_eq_true (by omega)]
        · rw [decide_eq_false hh, decide_eq_false (by omega)])
      go_wp2_with (fail)
      go_ret
      exact ⟨by rw [HL.out]; rfl, HB.out⟩
set_option maxRecDepth 100000 in
set_option maxHeartbeats 8000000 in
theorem allS_c (A : Option Addr) (c : Nat) (l : List ByteArray) (w : World) (p : ByteArray → Bool) (hr : Kd.C Kd.string w A l.length l) (hc : l.length ≤ c) (hn : l.length ≤ 5000)
    (hp : ∀ x, x ∈ l → ∀ W : World, Calls Try.prog 57 #[.string x] W fun e w' => e = .returned (.bool (p x)) ∧ Below W.heap.size W w') :
    Calls Try.prog 56 #[.slice A l.length c, .func (.func 57) #[] #[]] w fun e w' => e = .returned (.bool (allB p l)) ∧ Below w.heap.size w w' := by
  have HR0 := Lib.hid hr
  have HP := Lib.hid hp
  have hu30 := Try.underlying9
  have hl9 : (l.length : Int) ≤ 5000 := by omega
  clear hr hp
  obtain ⟨n, hnn⟩ : ∃ n, n = l.length := ⟨_, rfl⟩
  rw [← hnn] at hc hl9 ⊢
  have HNN := Lib.hid hnn
  clear hnn hn
  go_enter Try.func56, Try.ntmps56
  go_wp2_with (fail)
  go_loopw [9] (fun v9 w' => ∃ (i : Nat) (y : Int), i ≤ n ∧ v9 = .int .i64 y ∧ Hid (y = (i : Int)) ∧ Hid ((l.take i).all p = true) ∧ Hid (Below w.heap.size w w')) (fun v _ => n - (intOf v).toNat)
  case atStart => exact ⟨0, 0, Nat.zero_le _, rfl, Lib.hid rfl, Lib.hid rfl, Lib.hid (Below.refl _ _)⟩
  case round =>
    obtain ⟨i, y, hi, rfl, HY, HA, HB⟩ := hrel
    by_cases hlt : i < n
    · have hil : i < l.length := by rw [← HNN.out]; exact hlt
      have p157 : 0 ≤ y := by have := HY.out; omega
      have q157 : y < (n : Int) := by have := HY.out; omega
      have vj : IntKind.i64.wrap (y + 1) = y + 1 := IntWalk.i64_in _ ⟨by omega, by omega⟩
      obtain ⟨ad, e157, hx0⟩ := Kd.at_string HR0.out y p157 (by rw [← HNN.out]; exact q157)
      cases e157
      replace hx0 := (HB.out.cell (World.block_lt_of_cell? w _ hx0)).trans hx0
      have e0 : rdOf ByteArray.empty l y = l[i] := by
        rw [show y = (i : Int) from HY.out]; unfold rdOf; rw [Int.toNat_natCast, List.getD_eq_getElem?_getD, List.getElem?_eq_getElem hil]; rfl
      have CP := Lib.hid (show ∀ W : World, Calls Try.prog 57 #[.string (rdOf ByteArray.empty l y)] W fun e w' => e = .returned (.bool (p (rdOf ByteArray.empty l y))) ∧ Below W.heap.size W w' from by rw [e0]; exact HP.out _ (List.getElem_mem hil))
      have HA1 := Lib.hid (show (l.take (i + 1)).all p = p (rdOf ByteArray.empty l y) from by
        rw [e0, List.take_succ_eq_append_getElem hil, List.all_append, HA.out]
        simp)
      have HA2 := Lib.hid (show p (rdOf ByteArray.empty l y) = false → allB p l = false from fun h => by
        rw [e0] at h
        unfold allB
        have : l.all p = false := by
          rw [List.all_eq_false]
          exact ⟨l[i], List.getElem_mem hil, by rw [h]; exact Bool.false_ne_true⟩
        rw [this, Bool.false_and])
      clear e0 hil
      generalize rdOf ByteArray.empty l y = x at *
      have hq0 : (0 ≤ y) = True := eq_true p157
      have hq1 : (y < (n : Int)) = True := eq_true q157
      have HB2 := HB
      clear HB
      cases hpx : p x
      · rw [hpx] at CP HA1
        have HA3 := Lib.hid (HA2.out hpx)
        clear HA2 hpx HA
        go_wp2_with (go_at_call 57; (with_reducible refine (CP.out _).mono ?_); rintro e w3 ⟨rfl, hb3⟩; have HB3 := Lib.hid (below_step HB2.out hb3); clear hb3 HB2)
        go_ret
        exact ⟨by rw [HA3.out]; rfl, HB3.out⟩
      · rw [hpx] at CP HA1
        clear HA2 hpx HA
        go_wp2_with (go_at_call 57; (with_reducible refine (CP.out _).mono ?_); rintro e w3 ⟨rfl, hb3⟩; have HB3 := Lib.hid (below_step HB2.out hb3); clear hb3 HB2)
        exact ⟨⟨i + 1, y + 1, by omega, rfl, Lib.hid (by have := HY.out; omega), HA1, HB3⟩, by have := HY.out; simp [intOf]; omega⟩
    · obtain rfl : i = n := by omega
      have hq2 : decide (y < (i : Int)) = false := decide_eq_false (by have := HY.out; omega)
      have HL := Lib.hid (show allB p l = decide ((i : Int) ≤ 4096) from by
        have h1 := HA.out
        rw [HNN.out, List.take_length] at h1
        unfold allB
        rw [h1, Bool.true_and, ← HNN.out]
        by_cases hh : i ≤ 4096
        · rw [decide_eq_true hh, decide_eq_true (by omega)]
        · rw [decide_eq_false hh, decide_eq_false (by omega)])
      go_wp2_with (fail)
      go_ret
      exact ⟨by rw [HL.out]; rfl, HB.out⟩
end Go.Proofs.Ytdjompbhlkgmbaa.Msg
end
section
namespace Go.Proofs.Ytdjompbhlkgmbaa.PFrameDecodes
open Go.RowKit Go.Proofs.YtdjompbhlkgmbaaW.PrintWords Go.Proofs.YtdjompbhlkgmbaaW.PrintLast Go.Proofs.YtdjompbhlkgmbaaW.PrintMore
attribute [local go_sem] max2_int min2_int max_two min_two max_three min_three max_four min_four   -- for this text's walks alone
set_option linter.unusedVariables false
set_option linter.unusedSimpArgs false



def errW : Option Int → Value
  | none => .nilIface
  | some c => .iface 0 (.int .i64 c)
theorem errW_none : errW none = .nilIface := rfl
theorem errW_some (c : Int) : errW (some c) = .iface 0 (.int .i64 c) := rfl

-- the values' own types

end Go.Proofs.Ytdjompbhlkgmbaa.PFrameDecodes
end
section
/- Printed by the kit (print.sh); mended by a program of this session (wip/tools/fixprint04.py). -/
namespace Go.Proofs.Ytdjompbhlkgmbaa.PFrameDecodes
open Go.RowKit Go.Proofs.YtdjompbhlkgmbaaW.PrintWords Go.Proofs.YtdjompbhlkgmbaaW.PrintLast Go.Proofs.YtdjompbhlkgmbaaW.PrintMore
attribute [local go_sem] max2_int min2_int max_two min_two max_three min_three max_four min_four   -- for this text's walks alone
set_option linter.unusedVariables false
set_option linter.unusedSimpArgs false

/-! ### frame_may: function 64 -/
def frame_may.f (a0_0 : Int) (a0_1 : Int) (a0_2 : Int) (a0_3 : ByteArray) : Option (Bool) := if a0_0 ≥ 1 then (if a0_0 ≤ 14 then (if a0_1 < 64 then (some (decide (a0_2 < 64))) else (some false)) else (some false)) else (some false)
set_option maxHeartbeats 8000000 in
set_option maxRecDepth 100000 in
theorem frame_may.calls (a0_0 : Int) (a0_1 : Int) (a0_2 : Int) (a0_3 : ByteArray) (r : Bool) (w : World) (h : frame_may.f a0_0 a0_1 a0_2 a0_3 = some r) :
    Calls Try.prog 64 #[.agg #[.int .u8 a0_0, .int .u8 a0_1, .int .u8 a0_2, .string a0_3]] w fun e w' => e = .returned (.bool r) ∧ Below w.heap.size w w' := by
  have hu46 := Try.underlying46
  have HB := Aside0.mk (Below.refl w.heap.size w)
  have H : (if a0_0 ≥ 1 then (if a0_0 ≤ 14 then (if a0_1 < 64 then (some (decide (a0_2 < 64))) else (some false)) else (some false)) else (some false)) = some r := h
  clear h
  by_cases c2 : a0_0 ≥ 1
  · rw [if_pos c2] at H
    have c2b0 : decide (1 ≤ a0_0) = true := decide_eq_true c2
    clear c2
    by_cases c3 : a0_0 ≤ 14
    · rw [if_pos c3] at H
      have c3b0 : decide (a0_0 ≤ 14) = true := decide_eq_true c3
      clear c3
      by_cases c4 : a0_1 < 64
      · rw [if_pos c4] at H
        have c4b0 : decide (a0_1 < 64) = true := decide_eq_true c4
        clear c4
        obtain rfl := Option.some.inj H
        go_enter Try.func64, Try.ntmps64
        go_wp2_with (first | ((with_reducible refine gate_dst (N := 1) rfl ?_); refine box_event ?hg (N := 1) ?hd (cs := #[.int .u8 a0_0, .int .u8 a0_1, .int .u8 a0_2, .string a0_3]) (t := 46) ?hr ?_; (case hd => rfl); (case hg => rfl); (case hr => first | (go_simp; done) | (go_simp; rfl)); intro gb101 hg w5 hbox hb; have n0_ := Aside0.mk (below_step (by repeat (first | (with_reducible first | exact HB.out | apply below_alloc | apply pw_below_drewN | apply below_drew1) | exact HB.out)) hb); have n1_ := Aside0.mk (hbox); have n2_ := Aside0.mk ((by rw [hg]; exact (below_size (by repeat (first | (with_reducible first | exact HB.out | apply below_alloc | apply pw_below_drewN | apply below_drew1) | exact HB.out))) : w.heap.size ≤ gb101)); have n3_ := Aside0.mk ((by rw [hg]; exact (below_size (by repeat (first | (with_reducible first | exact HB.out | apply below_alloc | apply pw_below_drewN | apply below_drew1) | exact HB.out))) : w.heap.size ≤ gb101)); clear HB; have HB := n0_; have BK101 := n1_; have GW101 := n2_; have GE101 := n3_; clear n0_ n1_ n2_ n3_; clear hb hbox hg; have hcz6_0 : w5.cell? ⟨gb101, 0, none⟩ = some (.int .u8 a0_0) := (blk_cell BK101.out 0).trans rfl; have hcz6_1 : w5.cell? ⟨gb101, 1, none⟩ = some (.int .u8 a0_1) := (blk_cell BK101.out 1).trans rfl; have hcz6_2 : w5.cell? ⟨gb101, 2, none⟩ = some (.int .u8 a0_2) := (blk_cell BK101.out 2).trans rfl; have hcz6_3 : w5.cell? ⟨gb101, 3, none⟩ = some (.string a0_3) := (blk_cell BK101.out 3).trans rfl; have hfz6_0 := blk_frozen BK101.out 0; have hfz6_1 := blk_frozen BK101.out 1; have hfz6_2 := blk_frozen BK101.out 2; have hfz6_3 := blk_frozen BK101.out 3))
        go_ret
        exact ⟨by first | rfl | (simp [errW_none, errW_some] <;> rfl) | (simp [*, errW_none, errW_some] <;> rfl), by repeat (first | (with_reducible first | exact HB.out | apply below_alloc | apply pw_below_drewN | apply below_drew1 | refine below_set ?_ GE101.out) | exact HB.out)⟩
      · rw [if_neg c4] at H
        have c4b0 : decide (a0_1 < 64) = false := decide_eq_false c4
        clear c4
        obtain rfl := Option.some.inj H
        go_enter Try.func64, Try.ntmps64
        go_wp2_with (first | ((with_reducible refine gate_dst (N := 1) rfl ?_); refine box_event ?hg (N := 1) ?hd (cs := #[.int .u8 a0_0, .int .u8 a0_1, .int .u8 a0_2, .string a0_3]) (t := 46) ?hr ?_; (case hd => rfl); (case hg => rfl); (case hr => first | (go_simp; done) | (go_simp; rfl)); intro gb101 hg w7 hbox hb; have n0_ := Aside0.mk (below_step (by repeat (first | (with_reducible first | exact HB.out | apply below_alloc | apply pw_below_drewN | apply below_drew1) | exact HB.out)) hb); have n1_ := Aside0.mk (hbox); have n2_ := Aside0.mk ((by rw [hg]; exact (below_size (by repeat (first | (with_reducible first | exact HB.out | apply below_alloc | apply pw_below_drewN | apply below_drew1) | exact HB.out))) : w.heap.size ≤ gb101)); have n3_ := Aside0.mk ((by rw [hg]; exact (below_size (by repeat (first | (with_reducible first | exact HB.out | apply below_alloc | apply pw_below_drewN | apply below_drew1) | exact HB.out))) : w.heap.size ≤ gb101)); clear HB; have HB := n0_; have BK101 := n1_; have GW101 := n2_; have GE101 := n3_; clear n0_ n1_ n2_ n3_; clear hb hbox hg; have hcz8_0 : w7.cell? ⟨gb101, 0, none⟩ = some (.int .u8 a0_0) := (blk_cell BK101.out 0).trans rfl; have hcz8_1 : w7.cell? ⟨gb101, 1, none⟩ = some (.int .u8 a0_1) := (blk_cell BK101.out 1).trans rfl; have hcz8_2 : w7.cell? ⟨gb101, 2, none⟩ = some (.int .u8 a0_2) := (blk_cell BK101.out 2).trans rfl; have hcz8_3 : w7.cell? ⟨gb101, 3, none⟩ = some (.string a0_3) := (blk_cell BK101.out 3).trans rfl; have hfz8_0 := blk_frozen BK101.out 0; have hfz8_1 := blk_frozen BK101.out 1; have hfz8_2 := blk_frozen BK101.out 2; have hfz8_3 := blk_frozen BK101.out 3))
        go_ret
        exact ⟨by first | rfl | (simp [errW_none, errW_some] <;> rfl) | (simp [*, errW_none, errW_some] <;> rfl), by repeat (first | (with_reducible first | exact HB.out | apply below_alloc | apply pw_below_drewN | apply below_drew1 | refine below_set ?_ GE101.out) | exact HB.out)⟩
    · rw [if_neg c3] at H
      have c3b0 : decide (a0_0 ≤ 14) = false := decide_eq_false c3
      clear c3
      obtain rfl := Option.some.inj H
      go_enter Try.func64, Try.ntmps64
      go_wp2_with (first | ((with_reducible refine gate_dst (N := 1) rfl ?_); refine box_event ?hg (N := 1) ?hd (cs := #[.int .u8 a0_0, .int .u8 a0_1, .int .u8 a0_2, .string a0_3]) (t := 46) ?hr ?_; (case hd => rfl); (case hg => rfl); (case hr => first | (go_simp; done) | (go_simp; rfl)); intro gb101 hg w9 hbox hb; have n0_ := Aside0.mk (below_step (by repeat (first | (with_reducible first | exact HB.out | apply below_alloc | apply pw_below_drewN | apply below_drew1) | exact HB.out)) hb); have n1_ := Aside0.mk (hbox); have n2_ := Aside0.mk ((by rw [hg]; exact (below_size (by repeat (first | (with_reducible first | exact HB.out | apply below_alloc | apply pw_below_drewN | apply below_drew1) | exact HB.out))) : w.heap.size ≤ gb101)); have n3_ := Aside0.mk ((by rw [hg]; exact (below_size (by repeat (first | (with_reducible first | exact HB.out | apply below_alloc | apply pw_below_drewN | apply below_drew1) | exact HB.out))) : w.heap.size ≤ gb101)); clear HB; have HB := n0_; have BK101 := n1_; have GW101 := n2_; have GE101 := n3_; clear n0_ n1_ n2_ n3_; clear hb hbox hg; have hcz10_0 : w9.cell? ⟨gb101, 0, none⟩ = some (.int .u8 a0_0) := (blk_cell BK101.out 0).trans rfl; have hcz10_1 : w9.cell? ⟨gb101, 1, none⟩ = some (.int .u8 a0_1) := (blk_cell BK101.out 1).trans rfl; have hcz10_2 : w9.cell? ⟨gb101, 2, none⟩ = some (.int .u8 a0_2) := (blk_cell BK101.out 2).trans rfl; have hcz10_3 : w9.cell? ⟨gb101, 3, none⟩ = some (.string a0_3) := (blk_cell BK101.out 3).trans rfl; have hfz10_0 := blk_frozen BK101.out 0; have hfz10_1 := blk_frozen BK101.out 1; have hfz10_2 := blk_frozen BK101.out 2; have hfz10_3 := blk_frozen BK101.out 3))
      go_ret
      exact ⟨by first | rfl | (simp [errW_none, errW_some] <;> rfl) | (simp [*, errW_none, errW_some] <;> rfl), by repeat (first | (with_reducible first | exact HB.out | apply below_alloc | apply pw_below_drewN | apply below_drew1 | refine below_set ?_ GE101.out) | exact HB.out)⟩
  · rw [if_neg c2] at H
    have c2b0 : decide (1 ≤ a0_0) = false := decide_eq_false c2
    clear c2
    obtain rfl := Option.some.inj H
    go_enter Try.func64, Try.ntmps64
    go_wp2_with (first | ((with_reducible refine gate_dst (N := 1) rfl ?_); refine box_event ?hg (N := 1) ?hd (cs := #[.int .u8 a0_0, .int .u8 a0_1, .int .u8 a0_2, .string a0_3]) (t := 46) ?hr ?_; (case hd => rfl); (case hg => rfl); (case hr => first | (go_simp; done) | (go_simp; rfl)); intro gb101 hg w11 hbox hb; have n0_ := Aside0.mk (below_step (by repeat (first | (with_reducible first | exact HB.out | apply below_alloc | apply pw_below_drewN | apply below_drew1) | exact HB.out)) hb); have n1_ := Aside0.mk (hbox); have n2_ := Aside0.mk ((by rw [hg]; exact (below_size (by repeat (first | (with_reducible first | exact HB.out | apply below_alloc | apply pw_below_drewN | apply below_drew1) | exact HB.out))) : w.heap.size ≤ gb101)); have n3_ := Aside0.mk ((by rw [hg]; exact (below_size (by repeat (first | (with_reducible first | exact HB.out | apply below_alloc | apply pw_below_drewN | apply below_drew1) | exact HB.out))) : w.heap.size ≤ gb101)); clear HB; have HB := n0_; have BK101 := n1_; have GW101 := n2_; have GE101 := n3_; clear n0_ n1_ n2_ n3_; clear hb hbox hg; have hcz12_0 : w11.cell? ⟨gb101, 0, none⟩ = some (.int .u8 a0_0) := (blk_cell BK101.out 0).trans rfl; have hcz12_1 : w11.cell? ⟨gb101, 1, none⟩ = some (.int .u8 a0_1) := (blk_cell BK101.out 1).trans rfl; have hcz12_2 : w11.cell? ⟨gb101, 2, none⟩ = some (.int .u8 a0_2) := (blk_cell BK101.out 2).trans rfl; have hcz12_3 : w11.cell? ⟨gb101, 3, none⟩ = some (.string a0_3) := (blk_cell BK101.out 3).trans rfl; have hfz12_0 := blk_frozen BK101.out 0; have hfz12_1 := blk_frozen BK101.out 1; have hfz12_2 := blk_frozen BK101.out 2; have hfz12_3 := blk_frozen BK101.out 3))
    go_ret
    exact ⟨by first | rfl | (simp [errW_none, errW_some] <;> rfl) | (simp [*, errW_none, errW_some] <;> rfl), by repeat (first | (with_reducible first | exact HB.out | apply below_alloc | apply pw_below_drewN | apply below_drew1 | refine below_set ?_ GE101.out) | exact HB.out)⟩

/-! ### frame_four: function 65 -/
def frame_four.f (a0 : Int) : Option (ByteArray) := some (strOfNums (([(a0 / 16777216) % 256, (a0 / 65536) % 256, (a0 / 256) % 256, (a0) % 256] : List Int)))
set_option maxHeartbeats 8000000 in
set_option maxRecDepth 100000 in
theorem frame_four.calls (a0 : Int) (r : ByteArray) (w : World) (h : frame_four.f a0 = some r) :
    Calls Try.prog 65 #[.int .u32 a0] w fun e w' => e = .returned (.string r) ∧ Below w.heap.size w w' := by
  have HB := Aside0.mk (Below.refl w.heap.size w)
  have H : (some (strOfNums (([(a0 / 16777216) % 256, (a0 / 65536) % 256, (a0 / 256) % 256, (a0) % 256] : List Int)))) = some r := h
  clear h
  obtain ⟨y102, hy102⟩ : ∃ y_ : List Int, y_ = (([(a0 / 16777216) % 256, (a0 / 65536) % 256, (a0 / 256) % 256, (a0) % 256] : List Int)) := ⟨_, rfl⟩
  replace H : (some (strOfNums y102)) = some r := by first | (rw [hy102]; with_reducible exact H) | (have H2_ := (Option.bind_some _ _).symm.trans H; rw [hy102]; with_reducible exact H2_) | (have H2_ := (Option.bind_some _ _).symm.trans H; with_reducible exact H2_) | with_reducible exact H | (rw [hy102]; exact H) | exact H
  have Ny102 := Aside0.mk hy102
  clear hy102
  obtain rfl := Option.some.inj H
  go_enter Try.func65, Try.ntmps65
  go_wp2_with (first | ((with_reducible refine gate_dst (N := 14) rfl ?_); refine Kd.R_lit (Kd.int .u8) _ 5 ?hg (N := 14) ?hd (xs := ([(a0 / 16777216) % 256, (a0 / 65536) % 256, (a0 / 256) % 256, (a0) % 256] : List Int)) (inner := [.int .u8 ((a0 / 16777216) % 256), .int .u8 ((a0 / 65536) % 256), .int .u8 ((a0 / 256) % 256), .int .u8 ((a0) % 256)]) (ok := fun _ => True) (okp := fun _ => True) ?hr ?hp (fun _ hk => hk) trivial (Below.refl _ _) (Nat.le_refl _) (by simp) ?_; (case hd => rfl); (case hg => rfl); (case hr => first | (go_simp; done) | (go_simp; rfl)); (case hp => exact (Reps.one (show Kd.M (Kd.int .u8) _ _ _ ((a0 / 16777216) % 256) [.int .u8 ((a0 / 16777216) % 256)] from rfl) (Reps.one (show Kd.M (Kd.int .u8) _ _ _ ((a0 / 65536) % 256) [.int .u8 ((a0 / 65536) % 256)] from rfl) (Reps.one (show Kd.M (Kd.int .u8) _ _ _ ((a0 / 256) % 256) [.int .u8 ((a0 / 256) % 256)] from rfl) (Reps.one (show Kd.M (Kd.int .u8) _ _ _ ((a0) % 256) [.int .u8 ((a0) % 256)] from rfl) (Reps.none _ _)))))); intro v103 w2 ho3 hb hg_ hnew_; clear hg_ hnew_; (first | rw [← Ny102.out] at ho3 | (simp only [Int.reduceToNat] at ho3; rw [← Ny102.out] at ho3)); have n0_ := Aside0.mk (Kd.R_lower ho3 (below_size (by repeat (first | (with_reducible first | exact HB.out | apply below_alloc | apply pw_below_drewN | apply below_drew1) | exact HB.out)))); have n1_ := Aside0.mk (below_step (by repeat (first | (with_reducible first | exact HB.out | apply below_alloc | apply pw_below_drewN | apply below_drew1) | exact HB.out)) hb); clear HB; have HO104 := n0_; have HB := n1_; clear n0_ n1_; clear hb ho3; have hcv4 := own_string (P := Try.prog) Try.underlying63 Try.underlying5 Try.underlying9 (Kd.own_of_R HO104.out)))
  go_ret
  exact ⟨by first | rfl | (simp [errW_none, errW_some] <;> rfl) | (simp [*, errW_none, errW_some] <;> rfl), by repeat (first | (with_reducible first | exact HB.out | apply below_alloc | apply pw_below_drewN | apply below_drew1) | exact HB.out)⟩

/-! ### atomic_b32: function 98 -/
/-! ### frame_number: function 72 -/
def frame_number.f (a0 : ByteArray) : Option (Int) := if 0 < (a0.size : Int) then (if 1 < (a0.size : Int) then (if 2 < (a0.size : Int) then (if 3 < (a0.size : Int) then (some (Go.bits .or .u32 (Go.bits .or .u32 (Go.bits .or .u32 ((((bt a0 0) % 4294967296) * 16777216) % 4294967296) ((((bt a0 1) % 4294967296) * 65536) % 4294967296)) ((((bt a0 2) % 4294967296) * 256) % 4294967296)) ((bt a0 3) % 4294967296))) else (none)) else (none)) else (none)) else (none)
set_option maxHeartbeats 8000000 in
set_option maxRecDepth 100000 in
theorem frame_number.calls (a0 : ByteArray) (r : Int) (w : World) (h : frame_number.f a0 = some r) :
    Calls Try.prog 72 #[.string a0] w fun e w' => e = .returned (.int .u32 r) ∧ Drawn0 w w' := by
  have H : (if 0 < (a0.size : Int) then (if 1 < (a0.size : Int) then (if 2 < (a0.size : Int) then (if 3 < (a0.size : Int) then (some (Go.bits .or .u32 (Go.bits .or .u32 (Go.bits .or .u32 ((((bt a0 0) % 4294967296) * 16777216) % 4294967296) ((((bt a0 1) % 4294967296) * 65536) % 4294967296)) ((((bt a0 2) % 4294967296) * 256) % 4294967296)) ((bt a0 3) % 4294967296))) else (none)) else (none)) else (none)) else (none)) = some r := h
  clear h
  by_cases c2 : 0 < (a0.size : Int)
  · rw [if_pos c2] at H
    have c2b0 : decide (0 < (a0.size : Int)) = true := decide_eq_true c2
    have c2b1 : decide (0 < a0.size) = true := decide_eq_true (by omega)
    clear c2
    by_cases c4 : 1 < (a0.size : Int)
    · rw [if_pos c4] at H
      have c4b0 : decide (1 < (a0.size : Int)) = true := decide_eq_true c4
      have c4b1 : decide (1 < a0.size) = true := decide_eq_true (by omega)
      clear c4
      by_cases c6 : 2 < (a0.size : Int)
      · rw [if_pos c6] at H
        have c6b0 : decide (2 < (a0.size : Int)) = true := decide_eq_true c6
        have c6b1 : decide (2 < a0.size) = true := decide_eq_true (by omega)
        clear c6
        by_cases c8 : 3 < (a0.size : Int)
        · rw [if_pos c8] at H
          have c8b0 : decide (3 < (a0.size : Int)) = true := decide_eq_true c8
          have c8b1 : decide (3 < a0.size) = true := decide_eq_true (by omega)
          clear c8
          obtain rfl := Option.some.inj H
          have p3 : 0 ≤ (0 : Int) := (by omega)
          have q3 : 0 < a0.size := (by have : (0 : Int) < (a0.size : Int) := of_decide_eq_true (by first | (with_reducible assumption) | assumption); omega)
          have hx3 : ∀ h : 0 < a0.size, ((a0[0]'h).toNat : Int) = bt a0 0 := bt_at a0 0
          clear p3
          have qi3 : (0 < (a0.size : Int)) = True := eq_true (of_decide_eq_true (by first | (with_reducible assumption) | assumption))
          replace q3 := eq_true q3
          have p5 : 0 ≤ (1 : Int) := (by omega)
          have q5 : 1 < a0.size := (by have : (1 : Int) < (a0.size : Int) := of_decide_eq_true (by first | (with_reducible assumption) | assumption); omega)
          have hx5 : ∀ h : 1 < a0.size, ((a0[1]'h).toNat : Int) = bt a0 1 := bt_at a0 1
          clear p5
          have qi5 : (1 < (a0.size : Int)) = True := eq_true (of_decide_eq_true (by first | (with_reducible assumption) | assumption))
          replace q5 := eq_true q5
          have p7 : 0 ≤ (2 : Int) := (by omega)
          have q7 : 2 < a0.size := (by have : (2 : Int) < (a0.size : Int) := of_decide_eq_true (by first | (with_reducible assumption) | assumption); omega)
          have hx7 : ∀ h : 2 < a0.size, ((a0[2]'h).toNat : Int) = bt a0 2 := bt_at a0 2
          clear p7
          have qi7 : (2 < (a0.size : Int)) = True := eq_true (of_decide_eq_true (by first | (with_reducible assumption) | assumption))
          replace q7 := eq_true q7
          have p9 : 0 ≤ (3 : Int) := (by omega)
          have q9 : 3 < a0.size := (by have : (3 : Int) < (a0.size : Int) := of_decide_eq_true (by first | (with_reducible assumption) | assumption); omega)
          have hx9 : ∀ h : 3 < a0.size, ((a0[3]'h).toNat : Int) = bt a0 3 := bt_at a0 3
          clear p9
          have qi9 : (3 < (a0.size : Int)) = True := eq_true (of_decide_eq_true (by first | (with_reducible assumption) | assumption))
          replace q9 := eq_true q9
          go_enter Try.func72, Try.ntmps72
          go_wp2
          repeat (go_quiet (fail); try go_wp2)
          go_ret
          exact ⟨by first | rfl | (simp; done) | (simp [*]; done), by repeat (first | exact Drawn0.refl _ | apply Drawn0.step)⟩
        · rw [if_neg c8] at H
          exact absurd H (by simp)
      · rw [if_neg c6] at H
        exact absurd H (by simp)
    · rw [if_neg c4] at H
      exact absurd H (by simp)
  · rw [if_neg c2] at H
    exact absurd H (by simp)

/-! ### tattlerref04_Four: function 67 -/
/-! ### tattlerref02_eight: function 88 -/
/-! ### tattlerref02_More: function 82 -/
/-! ### tattlerref02_Sum: function 68 -/
end Go.Proofs.Ytdjompbhlkgmbaa.PFrameDecodes
end
section
/- The plain law of the sums: a step, eight steps, and what they keep (own text; no program in sight). -/
namespace Go.Proofs.Ytdjompbhlkgmbaa.Sum
set_option linter.unusedVariables false
/-- One step. -/
def st (x : Nat) : Nat := if x % 2 = 1 then (x / 2) ^^^ 3988292384 else x / 2
/-- k steps. -/
def it : Nat → Nat → Nat
  | 0, x => x
  | k + 1, x => st (it k x)
/-- Eight steps. -/
def ei (x : Nat) : Nat := it 8 x
theorem st_lt {x : Nat} (h : x < 4294967296) : st x < 4294967296 := by
  unfold st
  split
  · exact Nat.xor_lt_two_pow (n := 32) (by omega) (by decide)
  · omega
theorem it_lt {x : Nat} (h : x < 4294967296) : ∀ k, it k x < 4294967296
  | 0 => h
  | k + 1 => st_lt (it_lt h k)
theorem xor_half (a b : Nat) : (a ^^^ b) / 2 = a / 2 ^^^ b / 2 := by
  have := Nat.xor_div_two_pow (a := a) (b := b) (n := 1)
  simpa using this
theorem xor_odd (a b : Nat) : (a ^^^ b) % 2 = (a % 2 + b % 2) % 2 := by
  have := Nat.xor_mod_two_pow (a := a) (b := b) (n := 1)
  simp only [Nat.pow_one] at this
  rw [this]
  rcases Nat.mod_two_eq_zero_or_one a with h | h <;> rcases Nat.mod_two_eq_zero_or_one b with k | k <;> rw [h, k] <;> decide
theorem st_xor (a b : Nat) : st (a ^^^ b) = st a ^^^ st b := by
  unfold st
  rw [xor_half, xor_odd]
  rcases Nat.mod_two_eq_zero_or_one a with h | h <;> rcases Nat.mod_two_eq_zero_or_one b with k | k <;> rw [h, k] <;> simp
  · rw [Nat.xor_assoc]
  · rw [Nat.xor_assoc, Nat.xor_assoc, Nat.xor_comm (b / 2)]
  · rw [Nat.xor_assoc, ← Nat.xor_assoc 3988292384, Nat.xor_comm 3988292384, Nat.xor_assoc (b / 2), Nat.xor_self, Nat.xor_zero]
theorem it_xor (a b : Nat) : ∀ k, it k (a ^^^ b) = it k a ^^^ it k b
  | 0 => rfl
  | k + 1 => by unfold it; rw [it_xor a b k, st_xor]
theorem st_even (m : Nat) : st (2 * m) = m := by unfold st; rw [if_neg (by omega)]; omega
theorem ei_high (m : Nat) : ei (256 * m) = m := by
  have e : 256 * m = 2 * (2 * (2 * (2 * (2 * (2 * (2 * (2 * m))))))) := by omega
  unfold ei
  rw [e]
  simp only [it, st_even]
theorem ei_lt {x : Nat} (h : x < 4294967296) : ei x < 4294967296 := it_lt h 8
theorem split8 (x : Nat) : x = 256 * (x / 256) ^^^ x % 256 := by
  refine Nat.eq_of_testBit_eq fun i => ?_
  have e : 256 * (x / 256) = (x / 2 ^ 8) <<< 8 := by rw [Nat.shiftLeft_eq]; omega
  rw [e, Nat.testBit_xor, Nat.testBit_shiftLeft, show (256 : Nat) = 2 ^ 8 from rfl, Nat.testBit_mod_two_pow, Nat.testBit_div_two_pow]
  by_cases h : i < 8
  · simp [h, Nat.not_le.mpr h]
  · simp [h, Nat.not_lt.mp h]
/-- A byte by the table is a byte bit by bit. -/
theorem by_table (x b : Nat) (hb : b < 256) : ei (x ^^^ b) = x / 256 ^^^ ei (x % 256 ^^^ b) := by
  have h : x ^^^ b = 256 * (x / 256) ^^^ (x % 256 ^^^ b) := by
    conv => lhs; rw [split8 x]
    rw [Nat.xor_assoc]
  unfold ei
  rw [h, it_xor]
  have := ei_high (x / 256)
  unfold ei at this
  rw [this]
/-- A text's byte. -/
def by' (s : ByteArray) (k : Nat) : Nat := if h : k < s.size then (s[k]'h).toNat else 0
theorem by_at (s : ByteArray) (k : Nat) (h : k < s.size) : (s[k]'h).toNat = by' s k := by unfold by'; rw [dif_pos h]
theorem by_lt (s : ByteArray) (k : Nat) : by' s k < 256 := by
  unfold by'
  split
  · exact UInt8.toNat_lt _
  · omega
/-- On from x, over k bytes. -/
def go (s : ByteArray) (x : Nat) : Nat → Nat
  | 0 => x
  | k + 1 => ei (go s x k ^^^ by' s k)
theorem go_lt (s : ByteArray) {x : Nat} (h : x < 4294967296) : ∀ k, go s x k < 4294967296
  | 0 => h
  | k + 1 => ei_lt (Nat.xor_lt_two_pow (n := 32) (go_lt s h k) (Nat.lt_trans (by_lt s k) (by decide)))
/-- The sum of s, on from y. -/
def more (y : Nat) (s : ByteArray) : Nat := go s (y ^^^ 4294967295) s.size ^^^ 4294967295
theorem more_lt (s : ByteArray) {y : Nat} (h : y < 4294967296) : more y s < 4294967296 :=
  Nat.xor_lt_two_pow (n := 32) (go_lt s (Nat.xor_lt_two_pow (n := 32) h (by decide)) _) (by decide)
end Go.Proofs.Ytdjompbhlkgmbaa.Sum
end
section
/- A text's sum goes on with another one behind it: the plain law (own text). -/
namespace Go.Proofs.Ytdjompbhlkgmbaa.Sum
set_option linter.unusedVariables false
theorem by_left (a b : ByteArray) (k : Nat) (h : k < a.size) : by' (a ++ b) k = by' a k := by
  unfold by'
  rw [dif_pos h, dif_pos (by rw [ByteArray.size_append]; omega)]
  congr 1
  exact ByteArray.getElem_append_left h
theorem by_right (a b : ByteArray) (k : Nat) (h : k < b.size) : by' (a ++ b) (a.size + k) = by' b k := by
  unfold by'
  rw [dif_pos h, dif_pos (by rw [ByteArray.size_append]; omega)]
  congr 1
  rw [ByteArray.getElem_append_right (by omega)]
  congr 1
  omega
end Go.Proofs.Ytdjompbhlkgmbaa.Sum
end
section
/- The document's sums: what eight, Entry, More and Sum answer (own text). -/
namespace Go.Proofs.Ytdjompbhlkgmbaa.Sum
open Go.RowKit Go.Proofs.Ytdjompbhlkgmbaa.Mem
set_option linter.unusedVariables false
set_option linter.unusedSimpArgs false
theorem u8_u32 (b : Nat) (h : b < 256) : IntKind.u32.wrap (b : Int) = b := by rw [IntKind.wrap_u32']; omega
end Go.Proofs.Ytdjompbhlkgmbaa.Sum
end
section
/- The parts of sync.Once, of one goroutine, each a contract of its own (own text, after the guide's worked example of a lazy value). -/
namespace Go.Proofs.Ytdjompbhlkgmbaa.Once
open Go.RowKit Go.Proofs.Ytdjompbhlkgmbaa.Mem
theorem disable (w : World) : (callFunc 99 #[]).run Try.prog w = .ok (.value (.tuple #[])) w := run_call_mark0 Try.func99 (by kernel_rfl) (by kernel_rfl) (by kernel_rfl) .disable (by kernel_rfl) w
theorem enable (w : World) : (callFunc 101 #[]).run Try.prog w = .ok (.value (.tuple #[])) w := run_call_mark0 Try.func101 (by kernel_rfl) (by kernel_rfl) (by kernel_rfl) .enable (by kernel_rfl) w
theorem acquire (a : Addr) (w : World) : (callFunc 102 #[.pointer (some a)]).run Try.prog w = .ok (.value (.tuple #[])) w := run_call_marked Try.func102 (by kernel_rfl) (by kernel_rfl) (by kernel_rfl) .acquire (by kernel_rfl) a w
theorem releaseMerge (a : Addr) (w : World) : (callFunc 104 #[.pointer (some a)]).run Try.prog w = .ok (.value (.tuple #[])) w := run_call_marked Try.func104 (by kernel_rfl) (by kernel_rfl) (by kernel_rfl) .releaseMerge (by kernel_rfl) a w
set_option maxRecDepth 100000 in
/-- '(*sync/atomic.Bool).Store(true)', entered as a deferred call: the cell holds 1. -/
theorem store_deferred (a : Addr) (x : Value) (u : FrameMode) (w : World) (hc : w.cell? a = some x) (hz : w.frozen? a = false) :
    CallsD Try.prog 94 #[.pointer (some a), .bool true] u w fun e u' w' => u' = u ∧ (e = .returned (.tuple #[]) ∧ w' = w.drew.setCell a (.int .u32 1)) := by
  have hc' : w.drew.cell? a = some x := by go_simp
  have hz' : w.drew.frozen? a = false := by go_simp
  have hst := run_call_store (P := Try.prog) Try.func97 (by kernel_rfl) (by kernel_rfl) (by kernel_rfl) (by kernel_rfl) (k := .u32) (y := 1) hc' hz'
  go_enter_d Try.func94, Try.ntmps94
  go_wp2
  go_region_calls
  all_goals (go_end0; exact ⟨rfl, rfl⟩)
set_option maxRecDepth 100000 in
/-- '(*sync.Mutex).Unlock', entered as a deferred call, the lock held and nobody waiting: state 0. -/
theorem unlock_deferred (a : Addr) (u : FrameMode) (w : World) (hc : w.cell? a = some (.int .i32 1)) (hz : w.frozen? a = false) :
    CallsD Try.prog 93 #[.pointer (some a)] u w fun e u' w' => u' = u ∧ (e = .returned (.tuple #[]) ∧ w' = w.setCell a (.int .i32 0)) := by
  have hd := disable
  have he := enable
  have hr := releaseMerge
  have hadd := run_call_add (P := Try.prog) Try.func105 (by kernel_rfl) (by kernel_rfl) (by kernel_rfl) .i32 (by kernel_rfl) (y := -1) (s := 0) hc hz (by simp [go_sem]; rfl)
  have hcv := run_convert_to_unsafe (P := Try.prog) (src := 182) (dst := 161) Try.underlying182 Try.underlying161 (by kernel_rfl) hc
  go_enter_d Try.func93, Try.ntmps93
  go_wp2
  go_end0
  go_wp2
set_option maxRecDepth 100000 in
/-- '(*sync.Mutex).Lock', the lock free: state 1. -/
theorem lock_free (a : Addr) (w : World) (hc : w.cell? a = some (.int .i32 0)) (hz : w.frozen? a = false) :
    Calls Try.prog 92 #[.pointer (some a)] w fun e w' => e = .returned (.tuple #[]) ∧ w' = w.setCell a (.int .i32 1) := by
  have hd := disable
  have he := enable
  have ha := acquire
  have hcas := run_call_cas_hit (P := Try.prog) Try.func100 (by kernel_rfl) (by kernel_rfl) (by kernel_rfl) .i32 (by kernel_rfl) (y := 1) hc hz
  have hc' : (w.setCell a (.int .i32 1)).cell? a = some (.int .i32 1) := World.cell?_setCell_same w a _ hc
  have hcv := run_convert_to_unsafe (P := Try.prog) (src := 182) (dst := 161) Try.underlying182 Try.underlying161 (by kernel_rfl) hc'
  go_enter Try.func92, Try.ntmps92
  go_wp2
  first | go_end0 | (simp only [Exit.inBlock, Exit.then]; refine bodyPost_ret (results_none rfl _ _ _) rfl ?_) | refine bodyPost_ret (results_none rfl _ _ _) rfl ?_
  go_wp2
end Go.Proofs.Ytdjompbhlkgmbaa.Once
end
section
/- fill lays the table: the walk (own text). -/
namespace Go.Proofs.Ytdjompbhlkgmbaa.Sum
open Go.RowKit Go.Proofs.Ytdjompbhlkgmbaa.Mem
set_option linter.unusedVariables false
set_option linter.unusedSimpArgs false
/-- The block of a table: the Once's word d, the lock's s, the entries f. -/
structure Tb (w : World) (b : Nat) (d s : Int) (f : Nat → Nat) : Prop where
  c0 : w.cell? ⟨b, 0, none⟩ = some (.int .u32 d)
  c1 : w.cell? ⟨b, 1, none⟩ = some (.int .i32 s)
  cE : ∀ i, i < 256 → w.cell? ⟨b, 3 + i, none⟩ = some (.int .u32 (f i))
  z : ∀ i, i < 259 → w.frozen? ⟨b, i, none⟩ = false
theorem tb_set {w : World} {b k : Nat} {d s : Int} {f : Nat → Nat} {v : Nat} (h : Tb w b d s f) (hk : k < 256) : Tb (w.setCell ⟨b, 3 + k, none⟩ (.int .u32 v)) b d s (fun i => if i = k then v else f i) := by
  refine ⟨?_, ?_, fun i hi => ?_, fun i hi => ?_⟩
  · exact (World.cell?_setCell_other w ⟨b, 3 + k, none⟩ ⟨b, 0, none⟩ _ (by simp)).trans h.c0
  · exact (World.cell?_setCell_other w ⟨b, 3 + k, none⟩ ⟨b, 1, none⟩ _ (by first | (simp; done) | (simp; omega))).trans h.c1
  · by_cases e : i = k
    · subst e
      simp only [if_true]
      exact World.cell?_setCell_same w _ _ (h.cE i hi)
    · simp only [if_neg e]
      exact (World.cell?_setCell_other w ⟨b, 3 + k, none⟩ ⟨b, 3 + i, none⟩ _ (by first | (simp; done) | (simp; omega))).trans (h.cE i hi)
  · rw [World.frozen?_setCell]; exact h.z i hi
theorem tb_fun {w : World} {b : Nat} {d s : Int} {f g : Nat → Nat} (h : Tb w b d s f) (e : ∀ i, i < 256 → f i = g i) : Tb w b d s g :=
  ⟨h.c0, h.c1, fun i hi => by rw [← e i hi]; exact h.cE i hi, h.z⟩
set_option maxRecDepth 100000 in
set_option maxHeartbeats 800000 in
theorem fill_any (b : Nat) (d s : Int) (w : World) (h : Tb w b d s (fun _ => 0)) :
    Calls Try.prog 87 #[.pointer (some ⟨b, 0, none⟩)] w fun e w' => e = .returned (.tuple #[]) ∧ Tb w' b d s (fun i => if i < 256 then ei i else 0) ∧ Chg (fun x => x = b) w w' := by
  have HT := Lib.hid (show Tb w b d s (fun i => if i < 0 then ei i else 0) from ⟨h.c0, h.c1, fun i hi => by simpa using h.cE i hi, h.z⟩)
  clear h
  go_enter Try.func87, Try.ntmps87
  go_wp2_with (fail)
  go_loopw [5] (fun v w' => ∃ k : Nat, k ≤ 256 ∧ v = .int .i64 k ∧ Hid (Tb w' b d s (fun i => if i < k then ei i else 0)) ∧ Hid (Chg (fun x => x = b) w w')) (fun v _ => 256 - (intOf v).toNat)
  case atStart => exact ⟨0, by omega, rfl, HT, Lib.hid (chg_refl _ _)⟩
  case round =>
    clear HT
    obtain ⟨k, hk, rfl, HT, HC⟩ := hrel
    by_cases hlt : k < 256
    · have hw : IntKind.u32.wrap (k : Int) = k := u8_u32 k hlt
      go_wp2_with (fail)
      go_loopw [3, 10] (fun v0 v3 w' => ∃ j : Nat, j ≤ 8 ∧ v0 = .int .u32 (it j k : Nat) ∧ v3 = .int .i64 j ∧ w' = wr) (fun _ v _ => 8 - (intOf v).toNat)
      case atStart => exact ⟨0, by omega, rfl, rfl, rfl⟩
      case round =>
        obtain ⟨j, hj, rfl, rfl, rfl⟩ := hrel
        have hy : it j k < 4294967296 := it_lt (by omega) j
        have hs : it (j + 1) k = st (it j k) := rfl
        have h8 : j = 8 → it j k = ei k := fun h => by rw [h]; rfl
        generalize it j k = y at *
        have q1 : bits .and .u32 (y : Int) 1 = ((y % 2 : Nat) : Int) := by
          have := u32_and_nat y 1 hy (by decide)
          rw [nat_mask1] at this
          exact this
        by_cases hlt2 : j < 8
        · by_cases ho : y % 2 = 1
          · rw [ho] at q1
            have q3 : bits .xor .u32 ((y : Int) / 2) 3988292384 = ((y / 2 ^^^ 3988292384 : Nat) : Int) := by
              rw [show (y : Int) / 2 = ((y / 2 : Nat) : Int) by omega]; exact u32_xor_nat (y / 2) 3988292384 (by omega) (by decide)
            have hs' : it (j + 1) k = y / 2 ^^^ 3988292384 := by rw [hs]; unfold st; rw [if_pos ho]
            go_wp2_with (fail)
            exact ⟨⟨j + 1, by omega, by rw [hs'], by go_num, trivial⟩, by simp [intOf]; omega⟩
          · rw [show y % 2 = 0 by omega] at q1
            have hs' : ((it (j + 1) k : Nat) : Int) = (y : Int) / 2 := by rw [hs]; unfold st; rw [if_neg ho]; omega
            go_wp2_with (fail)
            exact ⟨⟨j + 1, by omega, by rw [hs'], by go_num, trivial⟩, by simp [intOf]; omega⟩
        · obtain rfl : j = 8 := by omega
          rw [h8 rfl]
          have e0 := HT.out.cE k hlt
          have e1 := HT.out.z (3 + k) (by omega)
          go_wp2_with (fail)
          refine ⟨⟨k + 1, by omega, by go_num, Lib.hid (tb_fun (tb_set HT.out hlt) fun i hi => ?_), Lib.hid (chg_set HC.out rfl)⟩, by simp [intOf]; omega⟩
          by_cases e : i = k
          · subst e; simp
          · simp only [if_neg e]
            by_cases e2 : i < k
            · rw [if_pos e2, if_pos (by omega)]
            · rw [if_neg e2, if_neg (by omega)]
    · obtain rfl : k = 256 := by omega
      go_wp2_with (fail)
      go_end0
      exact ⟨rfl, HT.out, HC.out⟩
end Go.Proofs.Ytdjompbhlkgmbaa.Sum
end
section
/- Do fills a table once (own text, after the guide's worked example of a lazy value). -/
namespace Go.Proofs.Ytdjompbhlkgmbaa.Sum
open Go.RowKit Go.Proofs.Ytdjompbhlkgmbaa.Mem Go.Proofs.Ytdjompbhlkgmbaa.Once
set_option linter.unusedVariables false
set_option linter.unusedSimpArgs false
/-- The entries. -/
def tab (i : Nat) : Nat := if i < 256 then ei i else 0
theorem tb_c0 {w : World} {b : Nat} {d d' s : Int} {f : Nat → Nat} (h : Tb w b d s f) : Tb (w.setCell ⟨b, 0, none⟩ (.int .u32 d')) b d' s f := by
  refine ⟨World.cell?_setCell_same w _ _ h.c0, ?_, fun i hi => ?_, fun i hi => ?_⟩
  · exact (World.cell?_setCell_other w ⟨b, 0, none⟩ ⟨b, 1, none⟩ _ (by simp)).trans h.c1
  · exact (World.cell?_setCell_other w ⟨b, 0, none⟩ ⟨b, 3 + i, none⟩ _ (by first | (simp; done) | (simp; omega))).trans (h.cE i hi)
  · rw [World.frozen?_setCell]; exact h.z i hi
theorem tb_c1 {w : World} {b : Nat} {d s s' : Int} {f : Nat → Nat} (h : Tb w b d s f) : Tb (w.setCell ⟨b, 1, none⟩ (.int .i32 s')) b d s' f := by
  refine ⟨?_, World.cell?_setCell_same w _ _ h.c1, fun i hi => ?_, fun i hi => ?_⟩
  · exact (World.cell?_setCell_other w ⟨b, 1, none⟩ ⟨b, 0, none⟩ _ (by simp)).trans h.c0
  · exact (World.cell?_setCell_other w ⟨b, 1, none⟩ ⟨b, 3 + i, none⟩ _ (by first | (simp; done) | (simp; omega))).trans (h.cE i hi)
  · rw [World.frozen?_setCell]; exact h.z i hi
theorem tb_drew {w : World} {b : Nat} {d s : Int} {f : Nat → Nat} (h : Tb w b d s f) : Tb w.drew b d s f := ⟨h.c0, h.c1, h.cE, h.z⟩
set_option maxRecDepth 100000 in
set_option maxHeartbeats 1600000 in
theorem slow_any (b : Nat) (w : World) (h : Tb w b 0 0 (fun _ => 0)) :
    Calls Try.prog 90 #[.pointer (some ⟨b, 0, none⟩), .func (.func 87) #[.pointer (some ⟨b, 0, none⟩)] #[]] w fun e w' => e = .returned (.tuple #[]) ∧ Tb w' b 1 0 tab ∧ Chg (fun x => x = b) w w' := by
  have h1 : Tb (w.setCell ⟨b, 1, none⟩ (.int .i32 1)) b 0 1 (fun _ => 0) := tb_c1 h
  have hl := run_call_load (P := Try.prog) Try.func91 (by kernel_rfl) (by kernel_rfl) (by kernel_rfl) .u32 (by kernel_rfl) h1.c0
  have hnot : ∀ (x : Bool) (w : World), (Op.unary .not (.bool x)).run Try.prog w = .ok (.bool (!x)) w := fun _ _ => rfl
  have hL := lock_free ⟨b, 1, none⟩ w h.c1 (h.z 1 (by omega))
  have hF := Lib.hid (fill_any b 0 1 _ h1)
  have HC := Lib.hid (chg_set (b := b) (i := 1) (v := .int .i32 1) (chg_refl (fun x => x = b) w) rfl)
  clear h h1
  go_enter_defers Try.func90, Try.ntmps90
  go_wp2_with (first | (go_at_call 92; refine hL.mono ?_; rintro e w' ⟨rfl, rfl⟩) | (go_at_call 89; go_in) | (go_at_call 87; refine hF.out.mono ?_; rintro e w2 ⟨rfl, hT, hC⟩))
  (try go_wp2)
  (try (show Leaves _ _ _ _ _ _))
  refine leaves_cons (f := 94) (args := #[.pointer (some ⟨b, 0, none⟩), .bool true]) (by simp) (by simp [go_sem]) ?_
  refine (store_deferred ⟨b, 0, none⟩ (.int .u32 0) .returning _ hT.c0 (hT.z 0 (by omega))).mono ?_
  rintro e u' w'' ⟨rfl, rfl, rfl⟩
  have hT2 := tb_c0 (d' := 1) (tb_drew hT)
  refine leaves_cons (f := 93) (args := #[.pointer (some ⟨b, 1, none⟩)]) (by simp [settle]) (by simp [go_sem]) ?_
  refine (unlock_deferred ⟨b, 1, none⟩ _ _ hT2.c1 (hT2.z 1 (by omega))).mono ?_
  rintro e u' w'' ⟨rfl, rfl, rfl⟩
  have hE := tb_c1 (s' := 0) hT2
  have hD := chg_set (i := 1) (v := .int .i32 0) (chg_set (i := 0) (v := .int .u32 1) (chg_drew (chg_then HC.out hC)) rfl) rfl
  simp [Leaves, settle, results, Try.results90]
  exact ⟨hE, hD⟩
theorem do_first (b : Nat) (w : World) (h : Tb w b 0 0 (fun _ => 0)) :
    Calls Try.prog 86 #[.pointer (some ⟨b, 0, none⟩), .func (.func 87) #[.pointer (some ⟨b, 0, none⟩)] #[]] w fun e w' => e = .returned (.tuple #[]) ∧ Tb w' b 1 0 tab ∧ Chg (fun x => x = b) w w' := by
  have hl := run_call_load (P := Try.prog) Try.func91 (by kernel_rfl) (by kernel_rfl) (by kernel_rfl) .u32 (by kernel_rfl) h.c0
  have hnot : ∀ (x : Bool) (w : World), (Op.unary .not (.bool x)).run Try.prog w = .ok (.bool (!x)) w := fun _ _ => rfl
  have HS := Lib.hid (slow_any b w h)
  clear h
  go_enter Try.func86, Try.ntmps86
  go_wp2_with (first | (go_at_call 90; refine HS.out.mono ?_; rintro e w' ⟨rfl, hT, hC⟩) | (go_at_call 89; go_in))
  go_end0
  exact ⟨rfl, hT, hC⟩
theorem do_done (b : Nat) (fv : Value) (w : World) (h : Tb w b 1 0 tab) :
    Calls Try.prog 86 #[.pointer (some ⟨b, 0, none⟩), fv] w fun e w' => e = .returned (.tuple #[]) ∧ w' = w := by
  have hl := run_call_load (P := Try.prog) Try.func91 (by kernel_rfl) (by kernel_rfl) (by kernel_rfl) .u32 (by kernel_rfl) h.c0
  have hnot : ∀ (x : Bool) (w : World), (Op.unary .not (.bool x)).run Try.prog w = .ok (.bool (!x)) w := fun _ _ => rfl
  clear h
  go_enter Try.func86, Try.ntmps86
  go_wp2
  go_end0
  exact ⟨rfl, rfl⟩
/-- A table: new, or asked already. -/
def IsTab (w : World) (b : Nat) : Prop := Tb w b 0 0 (fun _ => 0) ∨ Tb w b 1 0 tab
theorem do_any (b : Nat) (w : World) (h : IsTab w b) :
    Calls Try.prog 86 #[.pointer (some ⟨b, 0, none⟩), .func (.func 87) #[.pointer (some ⟨b, 0, none⟩)] #[]] w fun e w' => e = .returned (.tuple #[]) ∧ Tb w' b 1 0 tab ∧ Chg (fun x => x = b) w w' := by
  rcases h with h | h
  · exact do_first b w h
  · refine (do_done b _ w h).mono ?_
    rintro e w' ⟨rfl, rfl⟩
    exact ⟨rfl, h, chg_refl _ _⟩
end Go.Proofs.Ytdjompbhlkgmbaa.Sum
end
section
/- New, Entry, More, Sum of the program's table: the walks (own text). -/
namespace Go.Proofs.Ytdjompbhlkgmbaa.Sum
open Go.RowKit Go.Proofs.Ytdjompbhlkgmbaa.Mem Go.Proofs.Ytdjompbhlkgmbaa.Once
set_option linter.unusedVariables false
set_option linter.unusedSimpArgs false
theorem tb_drewN {w : World} {b n : Nat} {d s : Int} {f : Nat → Nat} (h : Tb w b d s f) : Tb (w.drewN n) b d s f := ⟨h.c0, h.c1, h.cE, h.z⟩
theorem more_any (b y : Nat) (s : ByteArray) (w : World) (h : IsTab w b) (hy : y < 4294967296) (hsz : s.size ≤ 1000000) :
    Calls Try.prog 81 #[.pointer (some ⟨b, 0, none⟩), .int .u32 y, .string s] w fun e w' => e = .returned (.int .u32 (more y s)) ∧ Tb w' b 1 0 tab ∧ Chg (fun x => x = b) w w' := by
  have q0 : bits .xor .u32 IntKind.u32.max (y : Int) = ((y ^^^ 4294967295 : Nat) : Int) := by
    rw [Nat.xor_comm]; exact u32_xor_nat 4294967295 y (by decide) hy
  have hsg : IntKind.u32.signed = false := rfl
  have hx : y ^^^ 4294967295 < 4294967296 := Nat.xor_lt_two_pow (n := 32) hy (by decide)
  have hend : more y s = go s (y ^^^ 4294967295) s.size ^^^ 4294967295 := rfl
  have HD := Lib.hid (do_any b w h)
  have hmf : ∀ (fn : Fn) (first cap : Array Value) (w : World), (Instr.makeFunc fn first cap).run Try.prog w = .ok (.func fn first cap) w := fun _ _ _ _ => rfl
  clear h
  go_enter Try.func81, Try.ntmps81
  go_wp2_with (fail)
  refine HD.out.mono ?_
  rintro e w1 ⟨rfl, hT, hC⟩
  have HT := Lib.hid hT
  have HC := Lib.hid hC
  clear hT hC
  go_wp2_with (fail)
  generalize y ^^^ 4294967295 = x at *
  go_loopw [7, 21] (fun v0 v3 w' => ∃ k : Nat, k ≤ s.size ∧ v0 = .int .u32 (go s x k : Nat) ∧ v3 = .int .i64 k ∧ Hid (Tb w' b 1 0 tab) ∧ Hid (Chg (fun x => x = b) w w')) (fun _ v _ => s.size - (intOf v).toNat)
  case atStart => exact ⟨0, by omega, rfl, rfl, HT, HC⟩
  case round =>
    clear HT HC
    obtain ⟨k, hk, rfl, rfl, HT, HC⟩ := hrel
    have hg := go_lt s hx k
    have hs : go s x (k + 1) = ei (go s x k ^^^ by' s k) := rfl
    by_cases hlt : k < s.size
    · generalize go s x k = z at *
      have hb1 := by_lt s k
      have hat := by_at s k
      obtain ⟨c, hc⟩ : ∃ c, c = z % 256 := ⟨_, rfl⟩
      have q1 : IntKind.u8.wrap (z : Int) = (c : Int) := by rw [IntKind.wrap_u8']; omega
      obtain ⟨t, ht⟩ : ∃ t, t = c ^^^ by' s k := ⟨_, rfl⟩
      have q2 : bits .xor .u8 (c : Int) (by' s k : Int) = (t : Int) := by rw [ht]; exact u8_xor_nat c (by' s k) (by omega) hb1
      have t1 : t < 256 := by rw [ht]; exact Nat.xor_lt_two_pow (n := 8) (by omega) hb1
      have e0 := HT.out.cE t t1
      rw [show tab t = ei t by unfold tab; rw [if_pos t1]] at e0
      have e2 := ei_lt (show t < 4294967296 by omega)
      have q3 : bits .xor .u32 ((z : Int) / 256) ((ei t : Nat) : Int) = ((z / 256 ^^^ ei t : Nat) : Int) := by
        rw [show (z : Int) / 256 = ((z / 256 : Nat) : Int) by omega]; exact u32_xor_nat (z / 256) (ei t) (by omega) e2
      have hs' : go s x (k + 1) = z / 256 ^^^ ei t := by rw [hs, by_table z (by' s k) hb1, ht, hc]
      clear hs ht hc
      go_wp2_with (fail)
      go_quiet (fail)
      go_wp2_with (fail)
      exact ⟨⟨k + 1, by omega, by rw [hs'], by go_num, Lib.hid (tb_drewN HT.out), Lib.hid (chg_drewN HC.out)⟩, by simp [intOf]; omega⟩
    · obtain rfl : k = s.size := by omega
      have q4 : bits .xor .u32 IntKind.u32.max ((go s x s.size : Nat) : Int) = ((go s x s.size ^^^ 4294967295 : Nat) : Int) := by
        rw [Nat.xor_comm]; exact u32_xor_nat 4294967295 _ (by decide) hg
      generalize go s x s.size = z at *
      go_wp2_with (fail)
      go_ret
      exact ⟨by rw [hend]; rfl, HT.out, HC.out⟩
theorem sum_any (b : Nat) (s : ByteArray) (w : World) (h : IsTab w b) (hsz : s.size ≤ 1000000) :
    Calls Try.prog 66 #[.pointer (some ⟨b, 0, none⟩), .string s] w fun e w' => e = .returned (.int .u32 (more 0 s)) ∧ Tb w' b 1 0 tab ∧ Chg (fun x => x = b) w w' := by
  have H0 : Calls Try.prog 81 #[.pointer (some ⟨b, 0, none⟩), .int .u32 0, .string s] w fun e w' => e = .returned (.int .u32 (more 0 s)) ∧ Tb w' b 1 0 tab ∧ Chg (fun x => x = b) w w' := more_any b 0 s w h (by decide) hsz
  have H1 := Lib.hid H0
  clear H0 h
  go_enter Try.func66, Try.ntmps66
  go_wp2_with (fail)
  refine H1.out.mono ?_
  rintro e w1 ⟨rfl, hT, hC⟩
  go_wp2_with (fail)
  go_ret
  exact ⟨rfl, hT, hC⟩
theorem more_nil (y : Int) (s : ByteArray) (w : World) :
    Calls Try.prog 81 #[.pointer none, .int .u32 y, .string s] w fun e w' => e = .returned (.int .u32 0) ∧ w' = w := by
  go_enter Try.func81, Try.ntmps81
  go_wp2_with (fail)
  go_ret
  exact ⟨rfl, rfl⟩
theorem sum_nil (s : ByteArray) (w : World) :
    Calls Try.prog 66 #[.pointer none, .string s] w fun e w' => e = .returned (.int .u32 0) ∧ w' = w := by
  go_enter Try.func66, Try.ntmps66
  go_wp2_with (go_at_call 81; (with_reducible refine (more_nil 0 s _).mono ?_); rintro e w1 ⟨rfl, rfl⟩)
  go_ret
  exact ⟨rfl, rfl⟩
end Go.Proofs.Ytdjompbhlkgmbaa.Sum
end
section
/- New makes an empty table (own text). -/
namespace Go.Proofs.Ytdjompbhlkgmbaa.Sum
open Go.RowKit Go.Proofs.Ytdjompbhlkgmbaa.Mem Go.Proofs.Ytdjompbhlkgmbaa.Once
set_option linter.unusedVariables false
set_option linter.unusedSimpArgs false
/-- A table's cells, all empty. -/
def zT : Array Value := #[.int .u32 0, .int .i32 0, .int .u32 0] ++ Array.replicate 256 (.int .u32 0)
theorem zT_info : (Try.prog.info? 160).map (fun i => (i.zero, i.size)) = some (some (.agg zT), 259) := by kernel_rfl
theorem zT_0 : zT[0]? = some (.int .u32 0) := by kernel_rfl
theorem zT_1 : zT[1]? = some (.int .i32 0) := by kernel_rfl
theorem zT_e (i : Nat) (hi : i < 256) : zT[3 + i]? = some (.int .u32 0) := by
  unfold zT
  rw [Array.getElem?_append_right (by simp)]
  simp [hi]
set_option maxRecDepth 100000 in
theorem new_any (w : World) :
    Calls Try.prog 53 #[] w fun e w' => e = .returned (.pointer (some ⟨w.heap.size, 0, none⟩)) ∧ Tb w' w.heap.size 0 0 (fun _ => 0) ∧ Below w.heap.size w w' ∧ w.heap.size < w'.heap.size := by
  have hz := (zero_of_info zT_info).1
  have hs := (zero_of_info zT_info).2
  go_enter Try.func53, Try.ntmps53
  go_wp2_with (fail)
  go_ret
  have hA := at_new w zT 160
  refine ⟨rfl, ⟨?_, ?_, fun i hi => ?_, fun i hi => ?_⟩, below_al (Below.refl _ _), by rw [World.size_alloc]; omega⟩
  · exact (At.cell hA 0).trans zT_0
  · exact (At.cell hA 1).trans zT_1
  · exact (At.cell hA (3 + i)).trans (zT_e i hi)
  · exact At.free hA i
end Go.Proofs.Ytdjompbhlkgmbaa.Sum
end
section
/- A table that is there stays as it is where others turn (own text). -/
namespace Go.Proofs.Ytdjompbhlkgmbaa.Sum
open Go.RowKit Go.Proofs.Ytdjompbhlkgmbaa.Mem Go.Proofs.Ytdjompbhlkgmbaa.Once
set_option linter.unusedVariables false
set_option linter.unusedSimpArgs false
theorem tb_chg {w w' : World} {b c : Nat} {d s : Int} {f : Nat → Nat} (h : Tb w b d s f) (k : Chg (fun x => x = c) w w') (hne : b ≠ c) : Tb w' b d s f := by
  have hl := World.block_lt_of_cell? w _ h.c0
  have hb := k.block b hl hne
  have hc : ∀ i, w'.cell? ⟨b, i, none⟩ = w.cell? ⟨b, i, none⟩ := fun i => by unfold World.cell?; simp only [hb]
  have hf : ∀ i, w'.frozen? ⟨b, i, none⟩ = w.frozen? ⟨b, i, none⟩ := fun i => by unfold World.frozen?; simp only [hb]
  exact ⟨(hc 0).trans h.c0, (hc 1).trans h.c1, fun i hi => (hc _).trans (h.cE i hi), fun i hi => (hf _).trans (h.z i hi)⟩
theorem tb_below {w w' : World} {b : Nat} {d s : Int} {f : Nat → Nat} (h : Tb w b d s f) (k : Below w.heap.size w w') : Tb w' b d s f := by
  have hl := World.block_lt_of_cell? w _ h.c0
  have hb := k.block b hl
  have hc : ∀ i, w'.cell? ⟨b, i, none⟩ = w.cell? ⟨b, i, none⟩ := fun i => by unfold World.cell?; simp only [hb]
  have hf : ∀ i, w'.frozen? ⟨b, i, none⟩ = w.frozen? ⟨b, i, none⟩ := fun i => by unfold World.frozen?; simp only [hb]
  exact ⟨(hc 0).trans h.c0, (hc 1).trans h.c1, fun i hi => (hc _).trans (h.cE i hi), fun i hi => (hf _).trans (h.z i hi)⟩
theorem is_chg {w w' : World} {b c : Nat} (h : IsTab w b) (k : Chg (fun x => x = c) w w') (hne : b ≠ c) : IsTab w' b := h.imp (fun h => tb_chg h k hne) (fun h => tb_chg h k hne)
theorem is_below {w w' : World} {b : Nat} (h : IsTab w b) (k : Below w.heap.size w w') : IsTab w' b := h.imp (fun h => tb_below h k) (fun h => tb_below h k)
end Go.Proofs.Ytdjompbhlkgmbaa.Sum
end
section
/- Rows of bytes and the texts made of them (own text). -/
namespace Go.Proofs.Ytdjompbhlkgmbaa.Sum
open Go.RowKit Go.Proofs.Ytdjompbhlkgmbaa.Mem Go.Proofs.Ytdjompbhlkgmbaa.Once
set_option linter.unusedVariables false
set_option linter.unusedSimpArgs false
/-- The text of n bytes f 0, f 1, .. -/
def ofB (n : Nat) (f : Nat → Nat) : ByteArray := ⟨Array.ofFn (fun i : Fin n => UInt8.ofNat (f i))⟩
theorem ofB_size (n : Nat) (f : Nat → Nat) : (ofB n f).size = n := by
  show (Array.ofFn _).size = n
  simp
theorem ofB_at (n : Nat) (f : Nat → Nat) (k : Nat) (h : k < n) (hf : f k < 256) : by' (ofB n f) k = f k := by
  unfold by'
  rw [dif_pos (by rw [ofB_size]; exact h)]
  have e : (ofB n f)[k]'(by rw [ofB_size]; exact h) = UInt8.ofNat (f k) := Array.getElem_ofFn (by simpa using h)
  rw [e, UInt8.toNat_ofNat']
  omega
/-- A row of n bytes in block b. -/
structure Row (w : World) (b n : Nat) (f : Nat → Nat) : Prop where
  c : ∀ i, i < n → w.cell? ⟨b, i, none⟩ = some (.int .u8 (f i))
  z : ∀ i, i < n → w.frozen? ⟨b, i, none⟩ = false
  l : ∀ i, f i < 256
  s : b < w.heap.size
set_option maxRecDepth 100000 in
theorem row_conv {w : World} {b n cap : Nat} {f : Nat → Nat} (h : Row w b n f) :
    (convert 63 9 (.slice (some ⟨b, 0, none⟩) n cap)).run Try.prog w = .ok (.string (ofB n f)) w := by
  have hb : Lib.Bytes w b 0 (ofB n f) := by
    intro i hi
    have hn : i < n := by rw [ofB_size] at hi; exact hi
    rw [Nat.zero_add, h.c i hn]
    have := by_at (ofB n f) i hi
    rw [ofB_at n f i hn (h.l i)] at this
    rw [this]
  have := Lib.run_convert_whole (P := Try.prog) w 63 5 9 rfl rfl rfl b 0 (ofB n f) hb cap
  rwa [ofB_size] at this
theorem row_below {w w' : World} {b n : Nat} {f : Nat → Nat} (h : Row w b n f) (k : Below w.heap.size w w') : Row w' b n f := by
  have hb := k.block b h.s
  have hc : ∀ i, w'.cell? ⟨b, i, none⟩ = w.cell? ⟨b, i, none⟩ := fun i => by unfold World.cell?; simp only [hb]
  have hf : ∀ i, w'.frozen? ⟨b, i, none⟩ = w.frozen? ⟨b, i, none⟩ := fun i => by unfold World.frozen?; simp only [hb]
  exact ⟨fun i hi => (hc i).trans (h.c i hi), fun i hi => (hf i).trans (h.z i hi), h.l, Nat.lt_of_lt_of_le h.s k.size⟩
end Go.Proofs.Ytdjompbhlkgmbaa.Sum
end
section
/- Frames as bytes: the plain laws (own text). -/
namespace Go.Proofs.Ytdjompbhlkgmbaa.Frame
open Go.Proofs.Ytdjompbhlkgmbaa.Sum
set_option linter.unusedVariables false
set_option linter.unusedSimpArgs false
theorem ext_by {a b : ByteArray} (h : a.size = b.size) (k : ∀ i, i < a.size → by' a i = by' b i) : a = b := by
  apply ByteArray.ext
  apply Array.ext h
  intro i h1 h2
  have e := k i h1
  rw [← by_at a i h1, ← by_at b i h2] at e
  exact UInt8.toNat_inj.1 e
theorem by_sub (a : ByteArray) (m n k : Nat) (hk : m + k < n) (hn : n ≤ a.size) : by' (a.extract m n) k = by' a (m + k) := by
  have hz : (a.extract m n).size = n - m := by rw [ByteArray.size_extract]; omega
  unfold by'
  rw [dif_pos (by omega), dif_pos (by omega)]
  congr 1
  rw [ByteArray.getElem_extract]
theorem size_sub (a : ByteArray) (m n : Nat) (hn : n ≤ a.size) : (a.extract m n).size = n - m := by rw [ByteArray.size_extract]; omega
def b4 (p q r s : Nat) : Nat → Nat := fun i => match i with | 0 => p | 1 => q | 2 => r | _ => s
/-- A number in four bytes. -/
def fourB (n : Nat) : ByteArray := ofB 4 (b4 (n / 16777216 % 256) (n / 65536 % 256) (n / 256 % 256) (n % 256))
def headB (k f t : Nat) : ByteArray := ofB 4 (b4 1 k f t)
def num4 (s : ByteArray) (i : Nat) : Nat := by' s i * 16777216 + by' s (i + 1) * 65536 + by' s (i + 2) * 256 + by' s (i + 3)
def mayF (k f t : Nat) : Bool := decide (1 ≤ k ∧ k ≤ 14 ∧ f ≤ 63 ∧ t ≤ 63)
def preB (k f t : Nat) (b : ByteArray) : ByteArray := headB k f t ++ fourB b.size ++ b
def encB (k f t : Nat) (b : ByteArray) : ByteArray := preB k f t b ++ fourB (more 0 (preB k f t b))
theorem fourB_size (n : Nat) : (fourB n).size = 4 := ofB_size _ _
theorem headB_size (k f t : Nat) : (headB k f t).size = 4 := ofB_size _ _
theorem preB_size (k f t : Nat) (b : ByteArray) : (preB k f t b).size = 8 + b.size := by
  unfold preB
  rw [ByteArray.size_append, ByteArray.size_append, headB_size, fourB_size]
theorem encB_size (k f t : Nat) (b : ByteArray) : (encB k f t b).size = 12 + b.size := by
  unfold encB
  rw [ByteArray.size_append, preB_size, fourB_size]; omega
theorem four_by {n i : Nat} (h : i < 4) : by' (fourB n) i = b4 (n / 16777216 % 256) (n / 65536 % 256) (n / 256 % 256) (n % 256) i := by
  refine ofB_at _ _ _ h ?_
  match i, h with
  | 0, _ => exact Nat.mod_lt _ (by decide)
  | 1, _ => exact Nat.mod_lt _ (by decide)
  | 2, _ => exact Nat.mod_lt _ (by decide)
  | 3, _ => exact Nat.mod_lt _ (by decide)
theorem head_by {k f t i : Nat} (hk : k < 256) (hf : f < 256) (ht : t < 256) (h : i < 4) : by' (headB k f t) i = b4 1 k f t i := by
  refine ofB_at _ _ _ h ?_
  match i, h with
  | 0, _ => show 1 < 256; decide
  | 1, _ => exact hk
  | 2, _ => exact hf
  | 3, _ => exact ht
theorem num4_four {n : Nat} (h : n < 4294967296) (s : ByteArray) (i : Nat) (hs : ∀ j, j < 4 → by' s (i + j) = by' (fourB n) j) : num4 s i = n := by
  unfold num4
  have e0 := hs 0 (by omega)
  have e1 := hs 1 (by omega)
  have e2 := hs 2 (by omega)
  have e3 := hs 3 (by omega)
  rw [four_by (by omega)] at e0 e1 e2 e3
  simp only [b4, Nat.add_zero] at e0 e1 e2 e3
  rw [e0, e1, e2, e3]
  omega
theorem dm {a r m : Nat} (h : r < m) : (a * m + r) / m = a ∧ (a * m + r) % m = r := by
  constructor
  · rw [Nat.add_comm, Nat.add_mul_div_right _ _ (by omega), Nat.div_eq_of_lt h, Nat.zero_add]
  · rw [Nat.add_comm, Nat.add_mul_mod_self_right, Nat.mod_eq_of_lt h]
theorem num4_row (s : ByteArray) (i : Nat) : num4 s i = ((by' s i * 256 + by' s (i + 1)) * 256 + by' s (i + 2)) * 256 + by' s (i + 3) := by
  unfold num4
  generalize by' s i = a
  generalize by' s (i + 1) = b
  generalize by' s (i + 2) = c
  generalize by' s (i + 3) = d
  omega
theorem four_num4 (s : ByteArray) (i : Nat) (j : Nat) (hj : j < 4) : by' (fourB (num4 s i)) j = by' s (i + j) := by
  rw [four_by hj, num4_row]
  have h0 := by_lt s i
  have h1 := by_lt s (i + 1)
  have h2 := by_lt s (i + 2)
  have h3 := by_lt s (i + 3)
  match j, hj with
  | 3, _ => exact (dm h3).2
  | 2, _ =>
    show _ / 256 % 256 = _
    rw [(dm h3).1]; exact (dm h2).2
  | 1, _ =>
    show _ / 65536 % 256 = _
    rw [show 65536 = 256 * 256 from rfl, ← Nat.div_div_eq_div_mul, (dm h3).1, (dm h2).1]; exact (dm h1).2
  | 0, _ =>
    show _ / 16777216 % 256 = _
    rw [show 16777216 = 256 * 256 * 256 from rfl, ← Nat.div_div_eq_div_mul, ← Nat.div_div_eq_div_mul, (dm h3).1, (dm h2).1, (dm h1).1]
    exact Nat.mod_eq_of_lt h0
theorem by_pre_head {k f t : Nat} {b : ByteArray} {i : Nat} (h : i < 4) : by' (preB k f t b) i = by' (headB k f t) i := by
  unfold preB
  rw [by_left _ _ _ (by rw [ByteArray.size_append, headB_size, fourB_size]; omega), by_left _ _ _ (by rw [headB_size]; omega)]
theorem by_pre_four {k f t : Nat} {b : ByteArray} {i : Nat} (h : i < 4) : by' (preB k f t b) (4 + i) = by' (fourB b.size) i := by
  unfold preB
  rw [by_left _ _ _ (by rw [ByteArray.size_append, headB_size, fourB_size]; omega)]
  have := by_right (headB k f t) (fourB b.size) i (by rw [fourB_size]; omega)
  rw [headB_size] at this
  exact this
theorem by_pre_body {k f t : Nat} {b : ByteArray} {i : Nat} (h : i < b.size) : by' (preB k f t b) (8 + i) = by' b i := by
  unfold preB
  have := by_right (headB k f t ++ fourB b.size) b i h
  rw [ByteArray.size_append, headB_size, fourB_size] at this
  exact this
theorem by_enc_pre {k f t : Nat} {b : ByteArray} {i : Nat} (h : i < 8 + b.size) : by' (encB k f t b) i = by' (preB k f t b) i := by
  unfold encB
  rw [by_left _ _ _ (by rw [preB_size]; omega)]
/-- What stands ahead of the sum. -/
theorem pre_of {s : ByteArray} (h12 : 12 ≤ s.size) (h0 : by' s 0 = 1) (hn : num4 s 4 = s.size - 12) : preB (by' s 1) (by' s 2) (by' s 3) (s.extract 8 (s.size - 4)) = s.extract 0 (s.size - 4) := by
  have zb : (s.extract 8 (s.size - 4)).size = s.size - 12 := by rw [size_sub _ _ _ (by omega)]; omega
  have hz : (preB (by' s 1) (by' s 2) (by' s 3) (s.extract 8 (s.size - 4))).size = s.size - 4 := by rw [preB_size, zb]; omega
  refine ext_by (by rw [hz, size_sub _ _ _ (by omega)]; omega) (fun i hi => ?_)
  rw [hz] at hi
  rw [by_sub s 0 (s.size - 4) i (by omega) (by omega), Nat.zero_add]
  by_cases h4 : i < 4
  · rw [by_pre_head h4, head_by (by_lt _ _) (by_lt _ _) (by_lt _ _) h4]
    match i, h4 with
    | 0, _ => exact h0.symm
    | 1, _ => rfl
    | 2, _ => rfl
    | 3, _ => rfl
  · by_cases h8 : i < 8
    · obtain ⟨j, rfl⟩ : ∃ j, i = 4 + j := ⟨i - 4, by omega⟩
      rw [by_pre_four (by omega), zb, ← hn, four_num4 s 4 j (by omega)]
    · obtain ⟨j, rfl⟩ : ∃ j, i = 8 + j := ⟨i - 8, by omega⟩
      rw [by_pre_body (by rw [zb]; omega), by_sub s 8 (s.size - 4) j (by omega) (by omega)]
/-- The frame of what was read is the very text just where the sum is right. -/
theorem enc_of {s : ByteArray} (h12 : 12 ≤ s.size) (h0 : by' s 0 = 1) (hn : num4 s 4 = s.size - 12) :
    encB (by' s 1) (by' s 2) (by' s 3) (s.extract 8 (s.size - 4)) = s ↔ more 0 (s.extract 0 (s.size - 4)) = num4 s (s.size - 4) := by
  have hp := pre_of h12 h0 hn
  have hl : more 0 (s.extract 0 (s.size - 4)) < 4294967296 := more_lt _ (by decide)
  have zb : (s.extract 8 (s.size - 4)).size = s.size - 12 := by rw [size_sub _ _ _ (by omega)]; omega
  have zp : (s.extract 0 (s.size - 4)).size = s.size - 4 := by rw [size_sub _ _ _ (by omega)]; omega
  unfold encB
  rw [hp]
  constructor
  · intro h
    refine (num4_four hl s (s.size - 4) (fun j hj => ?_)).symm
    have := by_right (s.extract 0 (s.size - 4)) (fourB (more 0 (s.extract 0 (s.size - 4)))) j (by rw [fourB_size]; omega)
    rw [h, zp] at this
    exact this
  · intro h
    refine ext_by (by rw [ByteArray.size_append, zp, fourB_size]; omega) (fun i hi => ?_)
    rw [ByteArray.size_append, zp, fourB_size] at hi
    by_cases hlt : i < s.size - 4
    · rw [by_left _ _ _ (by omega), by_sub s 0 (s.size - 4) i (by omega) (by omega), Nat.zero_add]
    · obtain ⟨j, rfl⟩ : ∃ j, i = (s.size - 4) + j := ⟨i - (s.size - 4), by omega⟩
      have := by_right (s.extract 0 (s.size - 4)) (fourB (more 0 (s.extract 0 (s.size - 4)))) j (by rw [fourB_size]; omega)
      rw [zp] at this
      rw [this, h, four_num4 s (s.size - 4) j (by omega)]
/-- What bytes are read as: the kind, the sender, the receiver, the body, the error's number. -/
def decR (s : ByteArray) : Nat × Nat × Nat × ByteArray × Int :=
  if s.size < 12 then (0, 0, 0, ⟨#[]⟩, 2)
  else if ¬ by' s 0 = 1 then (0, 0, 0, ⟨#[]⟩, 3)
  else if mayF (by' s 1) (by' s 2) (by' s 3) = false then (0, 0, 0, ⟨#[]⟩, 3)
  else if 1048576 < num4 s 4 then (0, 0, 0, ⟨#[]⟩, 4)
  else if s.size < 12 + num4 s 4 then (0, 0, 0, ⟨#[]⟩, 2)
  else if 12 + num4 s 4 < s.size then (0, 0, 0, ⟨#[]⟩, 3)
  else if ¬ more 0 (s.extract 0 (s.size - 4)) = num4 s (s.size - 4) then (0, 0, 0, ⟨#[]⟩, 5)
  else (by' s 1, by' s 2, by' s 3, s.extract 8 (s.size - 4), 0)
theorem dec_enc (k f t : Nat) (b : ByteArray) (hm : mayF k f t = true) (hb : b.size ≤ 1048576) : decR (encB k f t b) = (k, f, t, b, 0) := by
  have hmd := of_decide_eq_true hm
  have hz := encB_size k f t b
  have e0 : ∀ i, i < 4 → by' (encB k f t b) i = b4 1 k f t i := fun i hi => by
    rw [by_enc_pre (by omega), by_pre_head hi, head_by (by omega) (by omega) (by omega) hi]
  have g0 : by' (encB k f t b) 0 = 1 := e0 0 (by omega)
  have g1 : by' (encB k f t b) 1 = k := e0 1 (by omega)
  have g2 : by' (encB k f t b) 2 = f := e0 2 (by omega)
  have g3 : by' (encB k f t b) 3 = t := e0 3 (by omega)
  have gn : num4 (encB k f t b) 4 = b.size := num4_four (by omega) _ _ (fun j hj => by rw [by_enc_pre (by omega), by_pre_four hj])
  have gb : (encB k f t b).extract 8 ((encB k f t b).size - 4) = b := by
    rw [hz]
    refine ext_by (by rw [size_sub _ _ _ (by omega)]; omega) (fun i hi => ?_)
    rw [size_sub _ _ _ (by omega)] at hi
    rw [by_sub _ _ _ _ (by omega) (by omega), by_enc_pre (by omega), by_pre_body (by omega)]
  have hs := (enc_of (s := encB k f t b) (by omega) g0 (by rw [gn, hz]; omega)).1 (by rw [g1, g2, g3, gb])
  unfold decR
  rw [if_neg (by omega), if_neg (by rw [g0]; simp), g1, g2, g3, hm, if_neg (by simp), gn, if_neg (by omega), if_neg (by omega), if_neg (by omega), if_neg (by simp [hs]), gb]
end Go.Proofs.Ytdjompbhlkgmbaa.Frame
end
section
/- What the document's frames come to: the printed functions' plain laws, and their contracts (own text over the kit's printed texts). -/
namespace Go.Proofs.Ytdjompbhlkgmbaa.Frame
open Go.RowKit Go.Proofs.Ytdjompbhlkgmbaa.Mem Go.Proofs.Ytdjompbhlkgmbaa.Sum Go.Proofs.Ytdjompbhlkgmbaa.PFrameDecodes
open Go.Proofs.YtdjompbhlkgmbaaW.PrintWords (bt rd)
set_option linter.unusedVariables false
set_option linter.unusedSimpArgs false
theorem bt_by (s : ByteArray) (k : Nat) : bt s (k : Int) = (by' s k : Nat) := by
  unfold Go.Proofs.YtdjompbhlkgmbaaW.PrintWords.bt by'
  simp only [Int.toNat_natCast]
  split <;> rfl
theorem nums4 (p q r s : Nat) : strOfNums [(p : Int), (q : Int), (r : Int), (s : Int)] = ofB 4 (b4 p q r s) := by
  apply ByteArray.ext
  apply Array.ext
  · simp [strOfNums, ofB]
  · intro i h1 h2
    have h4 : i < 4 := by simpa [strOfNums] using h1
    match i, h4 with
    | 0, _ => simp [strOfNums, ofB, b4]
    | 1, _ => simp [strOfNums, ofB, b4]
    | 2, _ => simp [strOfNums, ofB, b4]
    | 3, _ => simp [strOfNums, ofB, b4]
def encE (k f t : Nat) (b : ByteArray) : Int := if 1048576 < b.size then 4 else if mayF k f t = false then 1 else 0
def encS (k f t : Nat) (b : ByteArray) : ByteArray := if 1048576 < b.size then ⟨#[]⟩ else if mayF k f t = false then ⟨#[]⟩ else encB k f t b
end Go.Proofs.Ytdjompbhlkgmbaa.Frame
end

/- What the row needs, laid together out of PMsgx4, MsgGreat, MsgPacks, Opener, MsgOpen (own texts and texts printed for this seat; wip/tools/group.py). -/
import Derived.Test.YtdjompbhlkgmbaaGA9
import Derived.Deep.Slices
import Derived.Deep.Fields
import Derived.ChangeSame
import Derived.OpenShut
import Derived.ProofKit
import Derived.SizedLaws
section
namespace Go.Proofs.Ytdjompbhlkgmbaa.PMsg
open Go.RowKit Go.Proofs.YtdjompbhlkgmbaaW.PrintWords Go.Proofs.YtdjompbhlkgmbaaW.PrintLast Go.Proofs.YtdjompbhlkgmbaaW.PrintMore
attribute [local go_sem] max2_int min2_int max_two min_two max_three min_three max_four min_four   -- for this text's walks alone
set_option linter.unusedVariables false
set_option linter.unusedSimpArgs false

/-! ### tattlerref22_Great: function 7 -/
mutual
def tattlerref22_Great.l0 : Nat → Int → Int → Int → Int → Int → Int → Int → Int → Int → Bool → List (S72) → List ByteArray → List (S54) → List (S56) → List Int → Option (Bool)
  | 0, _, _, _, _, _, _, _, _, _, _, _, _, _, _, _ => none
  | k + 1, x3, x30, x31, x102000, x102001, x102002, x102003, x102004, x102005, x102006, x102007, x102008, x102009, x102010, x102011 => if x31 < x30 then (if 0 ≤ x31 then (if x31 < (x102008.length : Int) then (if (wrap64 (x3 + ((rdOf ByteArray.empty x102008 x31).size : Int))) > 9000 then (some true) else (tattlerref22_Great.l0 k (wrap64 (x3 + ((rdOf ByteArray.empty x102008 x31).size : Int))) x30 (wrap64 (x31 + 1)) x102000 x102001 x102002 x102003 x102004 x102005 x102006 x102007 x102008 x102009 x102010 x102011)) else (none)) else (none)) else (tattlerref22_Great.l1 k x3 (x102009.length : Int) 0 x102000 x102001 x102002 x102003 x102004 x102005 x102006 x102007 x102008 x102009 x102010 x102011)
def tattlerref22_Great.l1 : Nat → Int → Int → Int → Int → Int → Int → Int → Int → Int → Bool → List (S72) → List ByteArray → List (S54) → List (S56) → List Int → Option (Bool)
  | 0, _, _, _, _, _, _, _, _, _, _, _, _, _, _, _ => none
  | k + 1, x3, x47, x48, x102000, x102001, x102002, x102003, x102004, x102005, x102006, x102007, x102008, x102009, x102010, x102011 => if x48 < x47 then (if 0 ≤ x48 then (if x48 < (x102009.length : Int) then (if (wrap64 (x3 + (wrap64 ((((rd_T54 x102009 x48).f0).size : Int) + (((rd_T54 x102009 x48).f5).size : Int))))) > 9000 then (some true) else (tattlerref22_Great.l1 k (wrap64 (x3 + (wrap64 ((((rd_T54 x102009 x48).f0).size : Int) + (((rd_T54 x102009 x48).f5).size : Int))))) x47 (wrap64 (x48 + 1)) x102000 x102001 x102002 x102003 x102004 x102005 x102006 x102007 x102008 x102009 x102010 x102011)) else (none)) else (none)) else (tattlerref22_Great.l2 k x3 (x102010.length : Int) 0 x102000 x102001 x102002 x102003 x102004 x102005 x102006 x102007 x102008 x102009 x102010 x102011)
def tattlerref22_Great.l2 : Nat → Int → Int → Int → Int → Int → Int → Int → Int → Int → Bool → List (S72) → List ByteArray → List (S54) → List (S56) → List Int → Option (Bool)
  | 0, _, _, _, _, _, _, _, _, _, _, _, _, _, _, _ => none
  | k + 1, x3, x73, x74, x102000, x102001, x102002, x102003, x102004, x102005, x102006, x102007, x102008, x102009, x102010, x102011 => if x74 < x73 then (if 0 ≤ x74 then (if x74 < (x102010.length : Int) then (if (wrap64 (x3 + (((rd_T56 x102010 x74).f0).size : Int))) > 9000 then (some true) else (tattlerref22_Great.l2 k (wrap64 (x3 + (((rd_T56 x102010 x74).f0).size : Int))) x73 (wrap64 (x74 + 1)) x102000 x102001 x102002 x102003 x102004 x102005 x102006 x102007 x102008 x102009 x102010 x102011)) else (none)) else (none)) else (some false)
end
def tattlerref22_Great.f (k : Nat) (a0_0 : Int) (a0_1 : Int) (a0_2 : Int) (a0_3 : Int) (a0_4 : Int) (a0_5 : Int) (a0_6 : Bool) (l0_7 : List (S72)) (l0_8 : List ByteArray) (l0_9 : List (S54)) (l0_10 : List (S56)) (l0_11 : List Int) : Option (Bool) := if (wrap64 ((wrap64 ((wrap64 ((wrap64 ((l0_7.length : Int) + (l0_8.length : Int))) + (l0_9.length : Int))) + (l0_10.length : Int))) + (l0_11.length : Int))) > 5000 then (some true) else (tattlerref22_Great.l0 k (wrap64 ((wrap64 ((wrap64 ((wrap64 ((l0_7.length : Int) + (l0_8.length : Int))) + (l0_9.length : Int))) + (l0_10.length : Int))) + (l0_11.length : Int))) (l0_8.length : Int) 0 a0_0 a0_1 a0_2 a0_3 a0_4 a0_5 a0_6 l0_7 l0_8 l0_9 l0_10 l0_11)
set_option maxHeartbeats 8000000 in
set_option maxRecDepth 100000 in
theorem tattlerref22_Great.calls (k : Nat) (a0_0 : Int) (a0_1 : Int) (a0_2 : Int) (a0_3 : Int) (a0_4 : Int) (a0_5 : Int) (a0_6 : Bool) (A0_7 : Option Addr) (c0_7 : Nat) (l0_7 : List (S72)) (A0_8 : Option Addr) (c0_8 : Nat) (l0_8 : List ByteArray) (A0_9 : Option Addr) (c0_9 : Nat) (l0_9 : List (S54)) (A0_10 : Option Addr) (c0_10 : Nat) (l0_10 : List (S56)) (A0_11 : Option Addr) (c0_11 : Nat) (l0_11 : List Int) (r : Bool) (w : World) (hr0_7 : Kd.C k72 w A0_7 l0_7.length l0_7) (hc0_7 : l0_7.length ≤ c0_7) (hr0_8 : Kd.C Kd.string w A0_8 l0_8.length l0_8) (hc0_8 : l0_8.length ≤ c0_8) (hr0_9 : Kd.C k54 w A0_9 l0_9.length l0_9) (hc0_9 : l0_9.length ≤ c0_9) (hr0_10 : Kd.C k56 w A0_10 l0_10.length l0_10) (hc0_10 : l0_10.length ≤ c0_10) (hr0_11 : Kd.C (Kd.int .u64) w A0_11 l0_11.length l0_11) (hc0_11 : l0_11.length ≤ c0_11) (h : tattlerref22_Great.f k a0_0 a0_1 a0_2 a0_3 a0_4 a0_5 a0_6 l0_7 l0_8 l0_9 l0_10 l0_11 = some r) :
    Calls Try.prog 7 #[.agg #[.int .u8 a0_0, .int .u8 a0_1, .int .u8 a0_2, .int .u32 a0_3, .int .u8 a0_4, .int .u8 a0_5, .bool a0_6, .slice A0_7 l0_7.length c0_7, .slice A0_8 l0_8.length c0_8, .slice A0_9 l0_9.length c0_9, .slice A0_10 l0_10.length c0_10, .slice A0_11 l0_11.length c0_11]] w fun e w' => e = .returned (.bool r) ∧ Below w.heap.size w w' := by
  have hu29 := Try.underlying29
  have HR0_7 := Aside0.mk hr0_7
  have HC0_7 := Aside0.mk hc0_7
  clear hr0_7 hc0_7
  have HR0_8 := Aside0.mk hr0_8
  have HC0_8 := Aside0.mk hc0_8
  clear hr0_8 hc0_8
  have HR0_9 := Aside0.mk hr0_9
  have HC0_9 := Aside0.mk hc0_9
  clear hr0_9 hc0_9
  have HR0_10 := Aside0.mk hr0_10
  have HC0_10 := Aside0.mk hc0_10
  clear hr0_10 hc0_10
  have HR0_11 := Aside0.mk hr0_11
  have HC0_11 := Aside0.mk hc0_11
  clear hr0_11 hc0_11
  have HB := Aside0.mk (Below.refl w.heap.size w)
  have H : (if (wrap64 ((wrap64 ((wrap64 ((wrap64 ((l0_7.length : Int) + (l0_8.length : Int))) + (l0_9.length : Int))) + (l0_10.length : Int))) + (l0_11.length : Int))) > 5000 then (some true) else (tattlerref22_Great.l0 k (wrap64 ((wrap64 ((wrap64 ((wrap64 ((l0_7.length : Int) + (l0_8.length : Int))) + (l0_9.length : Int))) + (l0_10.length : Int))) + (l0_11.length : Int))) (l0_8.length : Int) 0 a0_0 a0_1 a0_2 a0_3 a0_4 a0_5 a0_6 l0_7 l0_8 l0_9 l0_10 l0_11)) = some r := h
  clear h
  by_cases c2 : (wrap64 ((wrap64 ((wrap64 ((wrap64 ((l0_7.length : Int) + (l0_8.length : Int))) + (l0_9.length : Int))) + (l0_10.length : Int))) + (l0_11.length : Int))) > 5000
  · rw [if_pos c2] at H
    have c2b0 : decide (5000 < (wrap64 ((wrap64 ((wrap64 ((wrap64 ((l0_7.length : Int) + (l0_8.length : Int))) + (l0_9.length : Int))) + (l0_10.length : Int))) + (l0_11.length : Int)))) = true := decide_eq_true c2
    clear c2
    obtain rfl := Option.some.inj H
    go_enter Try.func7, Try.ntmps7
    go_wp2_with (first | ((with_reducible refine gate_dst (N := 1) rfl ?_); refine box_event ?hg (N := 1) ?hd (cs := #[.int .u8 a0_0, .int .u8 a0_1, .int .u8 a0_2, .int .u32 a0_3, .int .u8 a0_4, .int .u8 a0_5, .bool a0_6, .slice A0_7 l0_7.length c0_7, .slice A0_8 l0_8.length c0_8, .slice A0_9 l0_9.length c0_9, .slice A0_10 l0_10.length c0_10, .slice A0_11 l0_11.length c0_11]) (t := 29) ?hr ?_; (case hd => rfl); (case hg => rfl); (case hr => first | (go_simp; done) | (go_simp; rfl)); intro gb101 hg w3 hbox hb; have n0_ := Aside0.mk (below_step (by repeat (first | (with_reducible first | exact HB.out | apply below_alloc | apply pw_below_drewN | apply below_drew1) | exact HB.out)) hb); have n1_ := Aside0.mk (hbox); have n2_ := Aside0.mk ((by rw [hg]; exact (below_size (by repeat (first | (with_reducible first | exact HB.out | apply below_alloc | apply pw_below_drewN | apply below_drew1) | exact HB.out))) : w.heap.size ≤ gb101)); have n3_ := Aside0.mk ((by rw [hg]; exact (below_size (by repeat (first | (with_reducible first | exact HB.out | apply below_alloc | apply pw_below_drewN | apply below_drew1) | exact HB.out))) : w.heap.size ≤ gb101)); clear HB; have HB := n0_; have BK101 := n1_; have GW101 := n2_; have GE101 := n3_; clear n0_ n1_ n2_ n3_; clear hb hbox hg; have hcz4_0 : w3.cell? ⟨gb101, 0, none⟩ = some (.int .u8 a0_0) := (blk_cell BK101.out 0).trans rfl; have hcz4_1 : w3.cell? ⟨gb101, 1, none⟩ = some (.int .u8 a0_1) := (blk_cell BK101.out 1).trans rfl; have hcz4_2 : w3.cell? ⟨gb101, 2, none⟩ = some (.int .u8 a0_2) := (blk_cell BK101.out 2).trans rfl; have hcz4_3 : w3.cell? ⟨gb101, 3, none⟩ = some (.int .u32 a0_3) := (blk_cell BK101.out 3).trans rfl; have hcz4_4 : w3.cell? ⟨gb101, 4, none⟩ = some (.int .u8 a0_4) := (blk_cell BK101.out 4).trans rfl; have hcz4_5 : w3.cell? ⟨gb101, 5, none⟩ = some (.int .u8 a0_5) := (blk_cell BK101.out 5).trans rfl; have hcz4_6 : w3.cell? ⟨gb101, 6, none⟩ = some (.bool a0_6) := (blk_cell BK101.out 6).trans rfl; have hcz4_7 : w3.cell? ⟨gb101, 7, none⟩ = some (.slice A0_7 l0_7.length c0_7) := (blk_cell BK101.out 7).trans rfl; have hcz4_8 : w3.cell? ⟨gb101, 8, none⟩ = some (.slice A0_8 l0_8.length c0_8) := (blk_cell BK101.out 8).trans rfl; have hcz4_9 : w3.cell? ⟨gb101, 9, none⟩ = some (.slice A0_9 l0_9.length c0_9) := (blk_cell BK101.out 9).trans rfl; have hcz4_10 : w3.cell? ⟨gb101, 10, none⟩ = some (.slice A0_10 l0_10.length c0_10) := (blk_cell BK101.out 10).trans rfl; have hcz4_11 : w3.cell? ⟨gb101, 11, none⟩ = some (.slice A0_11 l0_11.length c0_11) := (blk_cell BK101.out 11).trans rfl; have hfz4_0 := blk_frozen BK101.out 0; have hfz4_1 := blk_frozen BK101.out 1; have hfz4_2 := blk_frozen BK101.out 2; have hfz4_3 := blk_frozen BK101.out 3; have hfz4_4 := blk_frozen BK101.out 4; have hfz4_5 := blk_frozen BK101.out 5; have hfz4_6 := blk_frozen BK101.out 6; have hfz4_7 := blk_frozen BK101.out 7; have hfz4_8 := blk_frozen BK101.out 8; have hfz4_9 := blk_frozen BK101.out 9; have hfz4_10 := blk_frozen BK101.out 10; have hfz4_11 := blk_frozen BK101.out 11))
    repeat (go_quiet (first | ((with_reducible refine gate_dst (N := 1) rfl ?_); refine box_event ?hg (N := 1) ?hd (cs := #[.int .u8 a0_0, .int .u8 a0_1, .int .u8 a0_2, .int .u32 a0_3, .int .u8 a0_4, .int .u8 a0_5, .bool a0_6, .slice A0_7 l0_7.length c0_7, .slice A0_8 l0_8.length c0_8, .slice A0_9 l0_9.length c0_9, .slice A0_10 l0_10.length c0_10, .slice A0_11 l0_11.length c0_11]) (t := 29) ?hr ?_; (case hd => rfl); (case hg => rfl); (case hr => first | (go_simp; done) | (go_simp; rfl)); intro gb101 hg w3 hbox hb; have n0_ := Aside0.mk (below_step (by repeat (first | (with_reducible first | exact HB.out | apply below_alloc | apply pw_below_drewN | apply below_drew1) | exact HB.out)) hb); have n1_ := Aside0.mk (hbox); have n2_ := Aside0.mk ((by rw [hg]; exact (below_size (by repeat (first | (with_reducible first | exact HB.out | apply below_alloc | apply pw_below_drewN | apply below_drew1) | exact HB.out))) : w.heap.size ≤ gb101)); have n3_ := Aside0.mk ((by rw [hg]; exact (below_size (by repeat (first | (with_reducible first | exact HB.out | apply below_alloc | apply pw_below_drewN | apply below_drew1) | exact HB.out))) : w.heap.size ≤ gb101)); clear HB; have HB := n0_; have BK101 := n1_; have GW101 := n2_; have GE101 := n3_; clear n0_ n1_ n2_ n3_; clear hb hbox hg; have hcz4_0 : w3.cell? ⟨gb101, 0, none⟩ = some (.int .u8 a0_0) := (blk_cell BK101.out 0).trans rfl; have hcz4_1 : w3.cell? ⟨gb101, 1, none⟩ = some (.int .u8 a0_1) := (blk_cell BK101.out 1).trans rfl; have hcz4_2 : w3.cell? ⟨gb101, 2, none⟩ = some (.int .u8 a0_2) := (blk_cell BK101.out 2).trans rfl; have hcz4_3 : w3.cell? ⟨gb101, 3, none⟩ = some (.int .u32 a0_3) := (blk_cell BK101.out 3).trans rfl; have hcz4_4 : w3.cell? ⟨gb101, 4, none⟩ = some (.int .u8 a0_4) := (blk_cell BK101.out 4).trans rfl; have hcz4_5 : w3.cell? ⟨gb101, 5, none⟩ = some (.int .u8 a0_5) := (blk_cell BK101.out 5).trans rfl; have hcz4_6 : w3.cell? ⟨gb101, 6, none⟩ = some (.bool a0_6) := (blk_cell BK101.out 6).trans rfl; have hcz4_7 : w3.cell? ⟨gb101, 7, none⟩ = some (.slice A0_7 l0_7.length c0_7) := (blk_cell BK101.out 7).trans rfl; have hcz4_8 : w3.cell? ⟨gb101, 8, none⟩ = some (.slice A0_8 l0_8.length c0_8) := (blk_cell BK101.out 8).trans rfl; have hcz4_9 : w3.cell? ⟨gb101, 9, none⟩ = some (.slice A0_9 l0_9.length c0_9) := (blk_cell BK101.out 9).trans rfl; have hcz4_10 : w3.cell? ⟨gb101, 10, none⟩ = some (.slice A0_10 l0_10.length c0_10) := (blk_cell BK101.out 10).trans rfl; have hcz4_11 : w3.cell? ⟨gb101, 11, none⟩ = some (.slice A0_11 l0_11.length c0_11) := (blk_cell BK101.out 11).trans rfl; have hfz4_0 := blk_frozen BK101.out 0; have hfz4_1 := blk_frozen BK101.out 1; have hfz4_2 := blk_frozen BK101.out 2; have hfz4_3 := blk_frozen BK101.out 3; have hfz4_4 := blk_frozen BK101.out 4; have hfz4_5 := blk_frozen BK101.out 5; have hfz4_6 := blk_frozen BK101.out 6; have hfz4_7 := blk_frozen BK101.out 7; have hfz4_8 := blk_frozen BK101.out 8; have hfz4_9 := blk_frozen BK101.out 9; have hfz4_10 := blk_frozen BK101.out 10; have hfz4_11 := blk_frozen BK101.out 11)); try go_wp2_with (first | ((with_reducible refine gate_dst (N := 1) rfl ?_); refine box_event ?hg (N := 1) ?hd (cs := #[.int .u8 a0_0, .int .u8 a0_1, .int .u8 a0_2, .int .u32 a0_3, .int .u8 a0_4, .int .u8 a0_5, .bool a0_6, .slice A0_7 l0_7.length c0_7, .slice A0_8 l0_8.length c0_8, .slice A0_9 l0_9.length c0_9, .slice A0_10 l0_10.length c0_10, .slice A0_11 l0_11.length c0_11]) (t := 29) ?hr ?_; (case hd => rfl); (case hg => rfl); (case hr => first | (go_simp; done) | (go_simp; rfl)); intro gb101 hg w3 hbox hb; have n0_ := Aside0.mk (below_step (by repeat (first | (with_reducible first | exact HB.out | apply below_alloc | apply pw_below_drewN | apply below_drew1) | exact HB.out)) hb); have n1_ := Aside0.mk (hbox); have n2_ := Aside0.mk ((by rw [hg]; exact (below_size (by repeat (first | (with_reducible first | exact HB.out | apply below_alloc | apply pw_below_drewN | apply below_drew1) | exact HB.out))) : w.heap.size ≤ gb101)); have n3_ := Aside0.mk ((by rw [hg]; exact (below_size (by repeat (first | (with_reducible first | exact HB.out | apply below_alloc | apply pw_below_drewN | apply below_drew1) | exact HB.out))) : w.heap.size ≤ gb101)); clear HB; have HB := n0_; have BK101 := n1_; have GW101 := n2_; have GE101 := n3_; clear n0_ n1_ n2_ n3_; clear hb hbox hg; have hcz4_0 : w3.cell? ⟨gb101, 0, none⟩ = some (.int .u8 a0_0) := (blk_cell BK101.out 0).trans rfl; have hcz4_1 : w3.cell? ⟨gb101, 1, none⟩ = some (.int .u8 a0_1) := (blk_cell BK101.out 1).trans rfl; have hcz4_2 : w3.cell? ⟨gb101, 2, none⟩ = some (.int .u8 a0_2) := (blk_cell BK101.out 2).trans rfl; have hcz4_3 : w3.cell? ⟨gb101, 3, none⟩ = some (.int .u32 a0_3) := (blk_cell BK101.out 3).trans rfl; have hcz4_4 : w3.cell? ⟨gb101, 4, none⟩ = some (.int .u8 a0_4) := (blk_cell BK101.out 4).trans rfl; have hcz4_5 : w3.cell? ⟨gb101, 5, none⟩ = some (.int .u8 a0_5) := (blk_cell BK101.out 5).trans rfl; have hcz4_6 : w3.cell? ⟨gb101, 6, none⟩ = some (.bool a0_6) := (blk_cell BK101.out 6).trans rfl; have hcz4_7 : w3.cell? ⟨gb101, 7, none⟩ = some (.slice A0_7 l0_7.length c0_7) := (blk_cell BK101.out 7).trans rfl; have hcz4_8 : w3.cell? ⟨gb101, 8, none⟩ = some (.slice A0_8 l0_8.length c0_8) := (blk_cell BK101.out 8).trans rfl; have hcz4_9 : w3.cell? ⟨gb101, 9, none⟩ = some (.slice A0_9 l0_9.length c0_9) := (blk_cell BK101.out 9).trans rfl; have hcz4_10 : w3.cell? ⟨gb101, 10, none⟩ = some (.slice A0_10 l0_10.length c0_10) := (blk_cell BK101.out 10).trans rfl; have hcz4_11 : w3.cell? ⟨gb101, 11, none⟩ = some (.slice A0_11 l0_11.length c0_11) := (blk_cell BK101.out 11).trans rfl; have hfz4_0 := blk_frozen BK101.out 0; have hfz4_1 := blk_frozen BK101.out 1; have hfz4_2 := blk_frozen BK101.out 2; have hfz4_3 := blk_frozen BK101.out 3; have hfz4_4 := blk_frozen BK101.out 4; have hfz4_5 := blk_frozen BK101.out 5; have hfz4_6 := blk_frozen BK101.out 6; have hfz4_7 := blk_frozen BK101.out 7; have hfz4_8 := blk_frozen BK101.out 8; have hfz4_9 := blk_frozen BK101.out 9; have hfz4_10 := blk_frozen BK101.out 10; have hfz4_11 := blk_frozen BK101.out 11)))
    go_ret
    exact ⟨by first | rfl | (simp [errW_none, errW_some] <;> rfl) | (simp [*, errW_none, errW_some] <;> rfl), by repeat (first | (with_reducible first | exact HB.out | apply below_alloc | apply pw_below_drewN | apply below_drew1 | refine below_set ?_ GE101.out) | exact HB.out)⟩
  · rw [if_neg c2] at H
    have c2b0 : decide (5000 < (wrap64 ((wrap64 ((wrap64 ((wrap64 ((l0_7.length : Int) + (l0_8.length : Int))) + (l0_9.length : Int))) + (l0_10.length : Int))) + (l0_11.length : Int)))) = false := decide_eq_false c2
    clear c2
    have H' := Aside0.mk H
    clear H
    go_enter Try.func7, Try.ntmps7
    go_wp2_with (first | ((with_reducible refine gate_dst (N := 1) rfl ?_); refine box_event ?hg (N := 1) ?hd (cs := #[.int .u8 a0_0, .int .u8 a0_1, .int .u8 a0_2, .int .u32 a0_3, .int .u8 a0_4, .int .u8 a0_5, .bool a0_6, .slice A0_7 l0_7.length c0_7, .slice A0_8 l0_8.length c0_8, .slice A0_9 l0_9.length c0_9, .slice A0_10 l0_10.length c0_10, .slice A0_11 l0_11.length c0_11]) (t := 29) ?hr ?_; (case hd => rfl); (case hg => rfl); (case hr => first | (go_simp; done) | (go_simp; rfl)); intro gb101 hg w5 hbox hb; have n0_ := Aside0.mk (below_step (by repeat (first | (with_reducible first | exact HB.out | apply below_alloc | apply pw_below_drewN | apply below_drew1) | exact HB.out)) hb); have n1_ := Aside0.mk (hbox); have n2_ := Aside0.mk ((by rw [hg]; exact (below_size (by repeat (first | (with_reducible first | exact HB.out | apply below_alloc | apply pw_below_drewN | apply below_drew1) | exact HB.out))) : w.heap.size ≤ gb101)); have n3_ := Aside0.mk ((by rw [hg]; exact (below_size (by repeat (first | (with_reducible first | exact HB.out | apply below_alloc | apply pw_below_drewN | apply below_drew1) | exact HB.out))) : w.heap.size ≤ gb101)); clear HB; have HB := n0_; have BK101 := n1_; have GW101 := n2_; have GE101 := n3_; clear n0_ n1_ n2_ n3_; clear hb hbox hg; have hcz6_0 : w5.cell? ⟨gb101, 0, none⟩ = some (.int .u8 a0_0) := (blk_cell BK101.out 0).trans rfl; have hcz6_1 : w5.cell? ⟨gb101, 1, none⟩ = some (.int .u8 a0_1) := (blk_cell BK101.out 1).trans rfl; have hcz6_2 : w5.cell? ⟨gb101, 2, none⟩ = some (.int .u8 a0_2) := (blk_cell BK101.out 2).trans rfl; have hcz6_3 : w5.cell? ⟨gb101, 3, none⟩ = some (.int .u32 a0_3) := (blk_cell BK101.out 3).trans rfl; have hcz6_4 : w5.cell? ⟨gb101, 4, none⟩ = some (.int .u8 a0_4) := (blk_cell BK101.out 4).trans rfl; have hcz6_5 : w5.cell? ⟨gb101, 5, none⟩ = some (.int .u8 a0_5) := (blk_cell BK101.out 5).trans rfl; have hcz6_6 : w5.cell? ⟨gb101, 6, none⟩ = some (.bool a0_6) := (blk_cell BK101.out 6).trans rfl; have hcz6_7 : w5.cell? ⟨gb101, 7, none⟩ = some (.slice A0_7 l0_7.length c0_7) := (blk_cell BK101.out 7).trans rfl; have hcz6_8 : w5.cell? ⟨gb101, 8, none⟩ = some (.slice A0_8 l0_8.length c0_8) := (blk_cell BK101.out 8).trans rfl; have hcz6_9 : w5.cell? ⟨gb101, 9, none⟩ = some (.slice A0_9 l0_9.length c0_9) := (blk_cell BK101.out 9).trans rfl; have hcz6_10 : w5.cell? ⟨gb101, 10, none⟩ = some (.slice A0_10 l0_10.length c0_10) := (blk_cell BK101.out 10).trans rfl; have hcz6_11 : w5.cell? ⟨gb101, 11, none⟩ = some (.slice A0_11 l0_11.length c0_11) := (blk_cell BK101.out 11).trans rfl; have hfz6_0 := blk_frozen BK101.out 0; have hfz6_1 := blk_frozen BK101.out 1; have hfz6_2 := blk_frozen BK101.out 2; have hfz6_3 := blk_frozen BK101.out 3; have hfz6_4 := blk_frozen BK101.out 4; have hfz6_5 := blk_frozen BK101.out 5; have hfz6_6 := blk_frozen BK101.out 6; have hfz6_7 := blk_frozen BK101.out 7; have hfz6_8 := blk_frozen BK101.out 8; have hfz6_9 := blk_frozen BK101.out 9; have hfz6_10 := blk_frozen BK101.out 10; have hfz6_11 := blk_frozen BK101.out 11))
    repeat (go_quiet (first | ((with_reducible refine gate_dst (N := 1) rfl ?_); refine box_event ?hg (N := 1) ?hd (cs := #[.int .u8 a0_0, .int .u8 a0_1, .int .u8 a0_2, .int .u32 a0_3, .int .u8 a0_4, .int .u8 a0_5, .bool a0_6, .slice A0_7 l0_7.length c0_7, .slice A0_8 l0_8.length c0_8, .slice A0_9 l0_9.length c0_9, .slice A0_10 l0_10.length c0_10, .slice A0_11 l0_11.length c0_11]) (t := 29) ?hr ?_; (case hd => rfl); (case hg => rfl); (case hr => first | (go_simp; done) | (go_simp; rfl)); intro gb101 hg w5 hbox hb; have n0_ := Aside0.mk (below_step (by repeat (first | (with_reducible first | exact HB.out | apply below_alloc | apply pw_below_drewN | apply below_drew1) | exact HB.out)) hb); have n1_ := Aside0.mk (hbox); have n2_ := Aside0.mk ((by rw [hg]; exact (below_size (by repeat (first | (with_reducible first | exact HB.out | apply below_alloc | apply pw_below_drewN | apply below_drew1) | exact HB.out))) : w.heap.size ≤ gb101)); have n3_ := Aside0.mk ((by rw [hg]; exact (below_size (by repeat (first | (with_reducible first | exact HB.out | apply below_alloc | apply pw_below_drewN | apply below_drew1) | exact HB.out))) : w.heap.size ≤ gb101)); clear HB; have HB := n0_; have BK101 := n1_; have GW101 := n2_; have GE101 := n3_; clear n0_ n1_ n2_ n3_; clear hb hbox hg; have hcz6_0 : w5.cell? ⟨gb101, 0, none⟩ = some (.int .u8 a0_0) := (blk_cell BK101.out 0).trans rfl; have hcz6_1 : w5.cell? ⟨gb101, 1, none⟩ = some (.int .u8 a0_1) := (blk_cell BK101.out 1).trans rfl; have hcz6_2 : w5.cell? ⟨gb101, 2, none⟩ = some (.int .u8 a0_2) := (blk_cell BK101.out 2).trans rfl; have hcz6_3 : w5.cell? ⟨gb101, 3, none⟩ = some (.int .u32 a0_3) := (blk_cell BK101.out 3).trans rfl; have hcz6_4 : w5.cell? ⟨gb101, 4, none⟩ = some (.int .u8 a0_4) := (blk_cell BK101.out 4).trans rfl; have hcz6_5 : w5.cell? ⟨gb101, 5, none⟩ = some (.int .u8 a0_5) := (blk_cell BK101.out 5).trans rfl; have hcz6_6 : w5.cell? ⟨gb101, 6, none⟩ = some (.bool a0_6) := (blk_cell BK101.out 6).trans rfl; have hcz6_7 : w5.cell? ⟨gb101, 7, none⟩ = some (.slice A0_7 l0_7.length c0_7) := (blk_cell BK101.out 7).trans rfl; have hcz6_8 : w5.cell? ⟨gb101, 8, none⟩ = some (.slice A0_8 l0_8.length c0_8) := (blk_cell BK101.out 8).trans rfl; have hcz6_9 : w5.cell? ⟨gb101, 9, none⟩ = some (.slice A0_9 l0_9.length c0_9) := (blk_cell BK101.out 9).trans rfl; have hcz6_10 : w5.cell? ⟨gb101, 10, none⟩ = some (.slice A0_10 l0_10.length c0_10) := (blk_cell BK101.out 10).trans rfl; have hcz6_11 : w5.cell? ⟨gb101, 11, none⟩ = some (.slice A0_11 l0_11.length c0_11) := (blk_cell BK101.out 11).trans rfl; have hfz6_0 := blk_frozen BK101.out 0; have hfz6_1 := blk_frozen BK101.out 1; have hfz6_2 := blk_frozen BK101.out 2; have hfz6_3 := blk_frozen BK101.out 3; have hfz6_4 := blk_frozen BK101.out 4; have hfz6_5 := blk_frozen BK101.out 5; have hfz6_6 := blk_frozen BK101.out 6; have hfz6_7 := blk_frozen BK101.out 7; have hfz6_8 := blk_frozen BK101.out 8; have hfz6_9 := blk_frozen BK101.out 9; have hfz6_10 := blk_frozen BK101.out 10; have hfz6_11 := blk_frozen BK101.out 11)); try go_wp2_with (first | ((with_reducible refine gate_dst (N := 1) rfl ?_); refine box_event ?hg (N := 1) ?hd (cs := #[.int .u8 a0_0, .int .u8 a0_1, .int .u8 a0_2, .int .u32 a0_3, .int .u8 a0_4, .int .u8 a0_5, .bool a0_6, .slice A0_7 l0_7.length c0_7, .slice A0_8 l0_8.length c0_8, .slice A0_9 l0_9.length c0_9, .slice A0_10 l0_10.length c0_10, .slice A0_11 l0_11.length c0_11]) (t := 29) ?hr ?_; (case hd => rfl); (case hg => rfl); (case hr => first | (go_simp; done) | (go_simp; rfl)); intro gb101 hg w5 hbox hb; have n0_ := Aside0.mk (below_step (by repeat (first | (with_reducible first | exact HB.out | apply below_alloc | apply pw_below_drewN | apply below_drew1) | exact HB.out)) hb); have n1_ := Aside0.mk (hbox); have n2_ := Aside0.mk ((by rw [hg]; exact (below_size (by repeat (first | (with_reducible first | exact HB.out | apply below_alloc | apply pw_below_drewN | apply below_drew1) | exact HB.out))) : w.heap.size ≤ gb101)); have n3_ := Aside0.mk ((by rw [hg]; exact (below_size (by repeat (first | (with_reducible first | exact HB.out | apply below_alloc | apply pw_below_drewN | apply below_drew1) | exact HB.out))) : w.heap.size ≤ gb101)); clear HB; have HB := n0_; have BK101 := n1_; have GW101 := n2_; have GE101 := n3_; clear n0_ n1_ n2_ n3_; clear hb hbox hg; have hcz6_0 : w5.cell? ⟨gb101, 0, none⟩ = some (.int .u8 a0_0) := (blk_cell BK101.out 0).trans rfl; have hcz6_1 : w5.cell? ⟨gb101, 1, none⟩ = some (.int .u8 a0_1) := (blk_cell BK101.out 1).trans rfl; have hcz6_2 : w5.cell? ⟨gb101, 2, none⟩ = some (.int .u8 a0_2) := (blk_cell BK101.out 2).trans rfl; have hcz6_3 : w5.cell? ⟨gb101, 3, none⟩ = some (.int .u32 a0_3) := (blk_cell BK101.out 3).trans rfl; have hcz6_4 : w5.cell? ⟨gb101, 4, none⟩ = some (.int .u8 a0_4) := (blk_cell BK101.out 4).trans rfl; have hcz6_5 : w5.cell? ⟨gb101, 5, none⟩ = some (.int .u8 a0_5) := (blk_cell BK101.out 5).trans rfl; have hcz6_6 : w5.cell? ⟨gb101, 6, none⟩ = some (.bool a0_6) := (blk_cell BK101.out 6).trans rfl; have hcz6_7 : w5.cell? ⟨gb101, 7, none⟩ = some (.slice A0_7 l0_7.length c0_7) := (blk_cell BK101.out 7).trans rfl; have hcz6_8 : w5.cell? ⟨gb101, 8, none⟩ = some (.slice A0_8 l0_8.length c0_8) := (blk_cell BK101.out 8).trans rfl; have hcz6_9 : w5.cell? ⟨gb101, 9, none⟩ = some (.slice A0_9 l0_9.length c0_9) := (blk_cell BK101.out 9).trans rfl; have hcz6_10 : w5.cell? ⟨gb101, 10, none⟩ = some (.slice A0_10 l0_10.length c0_10) := (blk_cell BK101.out 10).trans rfl; have hcz6_11 : w5.cell? ⟨gb101, 11, none⟩ = some (.slice A0_11 l0_11.length c0_11) := (blk_cell BK101.out 11).trans rfl; have hfz6_0 := blk_frozen BK101.out 0; have hfz6_1 := blk_frozen BK101.out 1; have hfz6_2 := blk_frozen BK101.out 2; have hfz6_3 := blk_frozen BK101.out 3; have hfz6_4 := blk_frozen BK101.out 4; have hfz6_5 := blk_frozen BK101.out 5; have hfz6_6 := blk_frozen BK101.out 6; have hfz6_7 := blk_frozen BK101.out 7; have hfz6_8 := blk_frozen BK101.out 8; have hfz6_9 := blk_frozen BK101.out 9; have hfz6_10 := blk_frozen BK101.out 10; have hfz6_11 := blk_frozen BK101.out 11)))
    go_loopg [3, 31] k (fun kq v3 v31 w' => ∃ (x3_1 : Int) (x31_1 : Int), v3 = .int .i64 x3_1 ∧ v31 = .int .i64 x31_1 ∧ Aside0 (tattlerref22_Great.l0 kq x3_1 (l0_8.length : Int) x31_1 a0_0 a0_1 a0_2 a0_3 a0_4 a0_5 a0_6 l0_7 l0_8 l0_9 l0_10 l0_11 = some r) ∧ Aside0 (kq ≤ k) ∧ Aside0 (w'.heap[gb101]? = some (.cells #[.int .u8 a0_0, .int .u8 a0_1, .int .u8 a0_2, .int .u32 a0_3, .int .u8 a0_4, .int .u8 a0_5, .bool a0_6, (.slice A0_7 l0_7.length c0_7), (.slice A0_8 l0_8.length c0_8), (.slice A0_9 l0_9.length c0_9), (.slice A0_10 l0_10.length c0_10), (.slice A0_11 l0_11.length c0_11)] 29 (0, 0))) ∧ Aside0 (Below w.heap.size w w'))
    case atStart => exact ⟨(wrap64 ((wrap64 ((wrap64 ((wrap64 ((l0_7.length : Int) + (l0_8.length : Int))) + (l0_9.length : Int))) + (l0_10.length : Int))) + (l0_11.length : Int))), (0), (by first | rfl | (simp; done) | (simp [*]; done)), (by first | rfl | (simp; done) | (simp [*]; done)), H', ⟨Nat.le_refl _⟩, ⟨by (with_reducible repeat (first | refine blk_drewN ?_ _ | refine blk_drew ?_ | refine blk_alloc ?_ _)); exact BK101.out⟩, ⟨by repeat (first | (with_reducible first | exact HB.out | apply below_alloc | apply pw_below_drewN | apply below_drew1 | refine below_set ?_ GE101.out) | exact HB.out)⟩⟩
    case round =>
      clear H'
      try clear c2
      try clear c2b0
      try clear p2
      try clear p6
      try clear hcz4_0
      try clear hcz4_1
      try clear hcz4_10
      try clear hcz4_11
      try clear hcz4_2
      try clear hcz4_3
      try clear hcz4_4
      try clear hcz4_5
      try clear hcz4_6
      try clear hcz4_7
      try clear hcz4_8
      try clear hcz4_9
      try clear hcz6_0
      try clear hcz6_1
      try clear hcz6_10
      try clear hcz6_11
      try clear hcz6_2
      try clear hcz6_3
      try clear hcz6_4
      try clear hcz6_5
      try clear hcz6_6
      try clear hcz6_7
      try clear hcz6_8
      try clear hcz6_9
      try clear hfz4_0
      try clear hfz4_1
      try clear hfz4_10
      try clear hfz4_11
      try clear hfz4_2
      try clear hfz4_3
      try clear hfz4_4
      try clear hfz4_5
      try clear hfz4_6
      try clear hfz4_7
      try clear hfz4_8
      try clear hfz4_9
      try clear hfz6_0
      try clear hfz6_1
      try clear hfz6_10
      try clear hfz6_11
      try clear hfz6_2
      try clear hfz6_3
      try clear hfz6_4
      try clear hfz6_5
      try clear hfz6_6
      try clear hfz6_7
      try clear hfz6_8
      try clear hfz6_9
      obtain ⟨x3_1, x31_1, rfl, rfl, HA, HK1, BK101, HB⟩ := hrel
      cases gk with
      | zero => exact absurd HA.out (by simp [tattlerref22_Great.l0])
      | succ k1 =>
        have H := HA.out
        clear HA
        simp only [tattlerref22_Great.l0] at H
        by_cases c7 : x31_1 < (l0_8.length : Int)
        · rw [if_pos c7] at H
          have c7b0 : decide (x31_1 < (l0_8.length : Int)) = true := decide_eq_true c7
          clear c7
          by_cases c8 : 0 ≤ x31_1
          · rw [if_pos c8] at H
            have c8b0 : decide (0 ≤ x31_1) = true := decide_eq_true c8
            clear c8
            by_cases c9 : x31_1 < (l0_8.length : Int)
            · rw [if_pos c9] at H
              have c9b0 : decide (x31_1 < (l0_8.length : Int)) = true := decide_eq_true c9
              clear c9
              by_cases c10 : (wrap64 (x3_1 + ((rdOf ByteArray.empty l0_8 x31_1).size : Int))) > 9000
              · rw [if_pos c10] at H
                have c10b0 : decide (9000 < (wrap64 (x3_1 + ((rdOf ByteArray.empty l0_8 x31_1).size : Int)))) = true := decide_eq_true c10
                clear c10
                obtain rfl := Option.some.inj H
                have hcz11_0 : wr.cell? ⟨gb101, 0, none⟩ = some (.int .u8 a0_0) := (blk_cell BK101.out 0).trans rfl
                have hcz11_1 : wr.cell? ⟨gb101, 1, none⟩ = some (.int .u8 a0_1) := (blk_cell BK101.out 1).trans rfl
                have hcz11_2 : wr.cell? ⟨gb101, 2, none⟩ = some (.int .u8 a0_2) := (blk_cell BK101.out 2).trans rfl
                have hcz11_3 : wr.cell? ⟨gb101, 3, none⟩ = some (.int .u32 a0_3) := (blk_cell BK101.out 3).trans rfl
                have hcz11_4 : wr.cell? ⟨gb101, 4, none⟩ = some (.int .u8 a0_4) := (blk_cell BK101.out 4).trans rfl
                have hcz11_5 : wr.cell? ⟨gb101, 5, none⟩ = some (.int .u8 a0_5) := (blk_cell BK101.out 5).trans rfl
                have hcz11_6 : wr.cell? ⟨gb101, 6, none⟩ = some (.bool a0_6) := (blk_cell BK101.out 6).trans rfl
                have hcz11_7 : wr.cell? ⟨gb101, 7, none⟩ = some (.slice A0_7 l0_7.length c0_7) := (blk_cell BK101.out 7).trans rfl
                have hcz11_8 : wr.cell? ⟨gb101, 8, none⟩ = some (.slice A0_8 l0_8.length c0_8) := (blk_cell BK101.out 8).trans rfl
                have hcz11_9 : wr.cell? ⟨gb101, 9, none⟩ = some (.slice A0_9 l0_9.length c0_9) := (blk_cell BK101.out 9).trans rfl
                have hcz11_10 : wr.cell? ⟨gb101, 10, none⟩ = some (.slice A0_10 l0_10.length c0_10) := (blk_cell BK101.out 10).trans rfl
                have hcz11_11 : wr.cell? ⟨gb101, 11, none⟩ = some (.slice A0_11 l0_11.length c0_11) := (blk_cell BK101.out 11).trans rfl
                have hfz11_0 := blk_frozen BK101.out 0
                have hfz11_1 := blk_frozen BK101.out 1
                have hfz11_2 := blk_frozen BK101.out 2
                have hfz11_3 := blk_frozen BK101.out 3
                have hfz11_4 := blk_frozen BK101.out 4
                have hfz11_5 := blk_frozen BK101.out 5
                have hfz11_6 := blk_frozen BK101.out 6
                have hfz11_7 := blk_frozen BK101.out 7
                have hfz11_8 := blk_frozen BK101.out 8
                have hfz11_9 := blk_frozen BK101.out 9
                have hfz11_10 := blk_frozen BK101.out 10
                have hfz11_11 := blk_frozen BK101.out 11
                have p102 : 0 ≤ (x31_1 : Int) := of_decide_eq_true (by first | (with_reducible assumption) | assumption)
                have q102 : x31_1 < (l0_8.length : Int) := of_decide_eq_true (by first | (with_reducible assumption) | assumption)
                obtain ⟨ad102, e102, hx102_0⟩ := Kd.at_string HR0_8.out x31_1 p102 q102
                cases e102
                replace hx102_0 := (HB.out.cell (World.block_lt_of_cell? w _ hx102_0)).trans hx102_0
                replace p102 := eq_true p102
                replace q102 := eq_true q102
                go_wp2
                repeat (go_quiet (fail); try go_wp2)
                go_ret
                exact ⟨by first | rfl | (simp [errW_none, errW_some] <;> rfl) | (simp [*, errW_none, errW_some] <;> rfl), by repeat (first | (with_reducible first | exact HB.out | apply below_alloc | apply pw_below_drewN | apply below_drew1 | refine below_set ?_ GE101.out) | exact HB.out)⟩
              · rw [if_neg c10] at H
                have c10b0 : decide (9000 < (wrap64 (x3_1 + ((rdOf ByteArray.empty l0_8 x31_1).size : Int)))) = false := decide_eq_false c10
                clear c10
                have H' := Aside0.mk H
                clear H
                have hcz12_0 : wr.cell? ⟨gb101, 0, none⟩ = some (.int .u8 a0_0) := (blk_cell BK101.out 0).trans rfl
                have hcz12_1 : wr.cell? ⟨gb101, 1, none⟩ = some (.int .u8 a0_1) := (blk_cell BK101.out 1).trans rfl
                have hcz12_2 : wr.cell? ⟨gb101, 2, none⟩ = some (.int .u8 a0_2) := (blk_cell BK101.out 2).trans rfl
                have hcz12_3 : wr.cell? ⟨gb101, 3, none⟩ = some (.int .u32 a0_3) := (blk_cell BK101.out 3).trans rfl
                have hcz12_4 : wr.cell? ⟨gb101, 4, none⟩ = some (.int .u8 a0_4) := (blk_cell BK101.out 4).trans rfl
                have hcz12_5 : wr.cell? ⟨gb101, 5, none⟩ = some (.int .u8 a0_5) := (blk_cell BK101.out 5).trans rfl
                have hcz12_6 : wr.cell? ⟨gb101, 6, none⟩ = some (.bool a0_6) := (blk_cell BK101.out 6).trans rfl
                have hcz12_7 : wr.cell? ⟨gb101, 7, none⟩ = some (.slice A0_7 l0_7.length c0_7) := (blk_cell BK101.out 7).trans rfl
                have hcz12_8 : wr.cell? ⟨gb101, 8, none⟩ = some (.slice A0_8 l0_8.length c0_8) := (blk_cell BK101.out 8).trans rfl
                have hcz12_9 : wr.cell? ⟨gb101, 9, none⟩ = some (.slice A0_9 l0_9.length c0_9) := (blk_cell BK101.out 9).trans rfl
                have hcz12_10 : wr.cell? ⟨gb101, 10, none⟩ = some (.slice A0_10 l0_10.length c0_10) := (blk_cell BK101.out 10).trans rfl
                have hcz12_11 : wr.cell? ⟨gb101, 11, none⟩ = some (.slice A0_11 l0_11.length c0_11) := (blk_cell BK101.out 11).trans rfl
                have hfz12_0 := blk_frozen BK101.out 0
                have hfz12_1 := blk_frozen BK101.out 1
                have hfz12_2 := blk_frozen BK101.out 2
                have hfz12_3 := blk_frozen BK101.out 3
                have hfz12_4 := blk_frozen BK101.out 4
                have hfz12_5 := blk_frozen BK101.out 5
                have hfz12_6 := blk_frozen BK101.out 6
                have hfz12_7 := blk_frozen BK101.out 7
                have hfz12_8 := blk_frozen BK101.out 8
                have hfz12_9 := blk_frozen BK101.out 9
                have hfz12_10 := blk_frozen BK101.out 10
                have hfz12_11 := blk_frozen BK101.out 11
                have p102 : 0 ≤ (x31_1 : Int) := of_decide_eq_true (by first | (with_reducible assumption) | assumption)
                have q102 : x31_1 < (l0_8.length : Int) := of_decide_eq_true (by first | (with_reducible assumption) | assumption)
                obtain ⟨ad102, e102, hx102_0⟩ := Kd.at_string HR0_8.out x31_1 p102 q102
                cases e102
                replace hx102_0 := (HB.out.cell (World.block_lt_of_cell? w _ hx102_0)).trans hx102_0
                replace p102 := eq_true p102
                replace q102 := eq_true q102
                go_wp2
                repeat (go_quiet (fail); try go_wp2)
                go_roundg k1
                case measure => have := HK1.out; omega
                case rel => exact ⟨(wrap64 (x3_1 + ((rdOf ByteArray.empty l0_8 x31_1).size : Int))), (wrap64 (x31_1 + 1)), (by first | rfl | (simp; done) | (simp [*]; done)), (by first | rfl | (simp; done) | (simp [*]; done)), H', ⟨by have := HK1.out; omega⟩, ⟨by (with_reducible repeat (first | refine blk_drewN ?_ _ | refine blk_drew ?_ | refine blk_alloc ?_ _)); exact BK101.out⟩, ⟨by repeat (first | (with_reducible first | exact HB.out | apply below_alloc | apply pw_below_drewN | apply below_drew1 | refine below_set ?_ GE101.out) | exact HB.out)⟩⟩
            · rw [if_neg c9] at H
              exact absurd H (by simp)
          · rw [if_neg c8] at H
            exact absurd H (by simp)
        · rw [if_neg c7] at H
          have c7b0 : decide (x31_1 < (l0_8.length : Int)) = false := decide_eq_false c7
          clear c7
          have H' := Aside0.mk H
          clear H
          have hcz13_0 : wr.cell? ⟨gb101, 0, none⟩ = some (.int .u8 a0_0) := (blk_cell BK101.out 0).trans rfl
          have hcz13_1 : wr.cell? ⟨gb101, 1, none⟩ = some (.int .u8 a0_1) := (blk_cell BK101.out 1).trans rfl
          have hcz13_2 : wr.cell? ⟨gb101, 2, none⟩ = some (.int .u8 a0_2) := (blk_cell BK101.out 2).trans rfl
          have hcz13_3 : wr.cell? ⟨gb101, 3, none⟩ = some (.int .u32 a0_3) := (blk_cell BK101.out 3).trans rfl
          have hcz13_4 : wr.cell? ⟨gb101, 4, none⟩ = some (.int .u8 a0_4) := (blk_cell BK101.out 4).trans rfl
          have hcz13_5 : wr.cell? ⟨gb101, 5, none⟩ = some (.int .u8 a0_5) := (blk_cell BK101.out 5).trans rfl
          have hcz13_6 : wr.cell? ⟨gb101, 6, none⟩ = some (.bool a0_6) := (blk_cell BK101.out 6).trans rfl
          have hcz13_7 : wr.cell? ⟨gb101, 7, none⟩ = some (.slice A0_7 l0_7.length c0_7) := (blk_cell BK101.out 7).trans rfl
          have hcz13_8 : wr.cell? ⟨gb101, 8, none⟩ = some (.slice A0_8 l0_8.length c0_8) := (blk_cell BK101.out 8).trans rfl
          have hcz13_9 : wr.cell? ⟨gb101, 9, none⟩ = some (.slice A0_9 l0_9.length c0_9) := (blk_cell BK101.out 9).trans rfl
          have hcz13_10 : wr.cell? ⟨gb101, 10, none⟩ = some (.slice A0_10 l0_10.length c0_10) := (blk_cell BK101.out 10).trans rfl
          have hcz13_11 : wr.cell? ⟨gb101, 11, none⟩ = some (.slice A0_11 l0_11.length c0_11) := (blk_cell BK101.out 11).trans rfl
          have hfz13_0 := blk_frozen BK101.out 0
          have hfz13_1 := blk_frozen BK101.out 1
          have hfz13_2 := blk_frozen BK101.out 2
          have hfz13_3 := blk_frozen BK101.out 3
          have hfz13_4 := blk_frozen BK101.out 4
          have hfz13_5 := blk_frozen BK101.out 5
          have hfz13_6 := blk_frozen BK101.out 6
          have hfz13_7 := blk_frozen BK101.out 7
          have hfz13_8 := blk_frozen BK101.out 8
          have hfz13_9 := blk_frozen BK101.out 9
          have hfz13_10 := blk_frozen BK101.out 10
          have hfz13_11 := blk_frozen BK101.out 11
          go_wp2
          repeat (go_quiet (fail); try go_wp2)
          go_loopg [3, 48] k1 (fun kq v3 v48 w' => ∃ (x3_2 : Int) (x48_2 : Int), v3 = .int .i64 x3_2 ∧ v48 = .int .i64 x48_2 ∧ Aside0 (tattlerref22_Great.l1 kq x3_2 (l0_9.length : Int) x48_2 a0_0 a0_1 a0_2 a0_3 a0_4 a0_5 a0_6 l0_7 l0_8 l0_9 l0_10 l0_11 = some r) ∧ Aside0 (kq ≤ k1) ∧ Aside0 (w'.heap[gb101]? = some (.cells #[.int .u8 a0_0, .int .u8 a0_1, .int .u8 a0_2, .int .u32 a0_3, .int .u8 a0_4, .int .u8 a0_5, .bool a0_6, (.slice A0_7 l0_7.length c0_7), (.slice A0_8 l0_8.length c0_8), (.slice A0_9 l0_9.length c0_9), (.slice A0_10 l0_10.length c0_10), (.slice A0_11 l0_11.length c0_11)] 29 (0, 0))) ∧ Aside0 (Below w.heap.size w w'))
          case atStart => exact ⟨(x3_1), (0), (by first | rfl | (simp; done) | (simp [*]; done)), (by first | rfl | (simp; done) | (simp [*]; done)), H', ⟨Nat.le_refl _⟩, ⟨by (with_reducible repeat (first | refine blk_drewN ?_ _ | refine blk_drew ?_ | refine blk_alloc ?_ _)); exact BK101.out⟩, ⟨by repeat (first | (with_reducible first | exact HB.out | apply below_alloc | apply pw_below_drewN | apply below_drew1 | refine below_set ?_ GE101.out) | exact HB.out)⟩⟩
          case round =>
            clear H'
            try clear c1
            try clear p1
            try clear q1
            try clear hx1
            try clear c2
            try clear c2b0
            try clear p2
            try clear p6
            try clear c7
            try clear c7b0
            try clear c8
            try clear c8b0
            try clear c9
            try clear c9b0
            try clear c10
            try clear c10b0
            try clear p10
            try clear q10
            try clear hx10
            try clear hcz11_0
            try clear hcz11_1
            try clear hcz11_10
            try clear hcz11_11
            try clear hcz11_2
            try clear hcz11_3
            try clear hcz11_4
            try clear hcz11_5
            try clear hcz11_6
            try clear hcz11_7
            try clear hcz11_8
            try clear hcz11_9
            try clear hcz12_0
            try clear hcz12_1
            try clear hcz12_10
            try clear hcz12_11
            try clear hcz12_2
            try clear hcz12_3
            try clear hcz12_4
            try clear hcz12_5
            try clear hcz12_6
            try clear hcz12_7
            try clear hcz12_8
            try clear hcz12_9
            try clear hcz13_0
            try clear hcz13_1
            try clear hcz13_10
            try clear hcz13_11
            try clear hcz13_2
            try clear hcz13_3
            try clear hcz13_4
            try clear hcz13_5
            try clear hcz13_6
            try clear hcz13_7
            try clear hcz13_8
            try clear hcz13_9
            try clear hcz4_0
            try clear hcz4_1
            try clear hcz4_10
            try clear hcz4_11
            try clear hcz4_2
            try clear hcz4_3
            try clear hcz4_4
            try clear hcz4_5
            try clear hcz4_6
            try clear hcz4_7
            try clear hcz4_8
            try clear hcz4_9
            try clear hcz6_0
            try clear hcz6_1
            try clear hcz6_10
            try clear hcz6_11
            try clear hcz6_2
            try clear hcz6_3
            try clear hcz6_4
            try clear hcz6_5
            try clear hcz6_6
            try clear hcz6_7
            try clear hcz6_8
            try clear hcz6_9
            try clear hfz11_0
            try clear hfz11_1
            try clear hfz11_10
            try clear hfz11_11
            try clear hfz11_2
            try clear hfz11_3
            try clear hfz11_4
            try clear hfz11_5
            try clear hfz11_6
            try clear hfz11_7
            try clear hfz11_8
            try clear hfz11_9
            try clear hfz12_0
            try clear hfz12_1
            try clear hfz12_10
            try clear hfz12_11
            try clear hfz12_2
            try clear hfz12_3
            try clear hfz12_4
            try clear hfz12_5
            try clear hfz12_6
            try clear hfz12_7
            try clear hfz12_8
            try clear hfz12_9
            try clear hfz13_0
            try clear hfz13_1
            try clear hfz13_10
            try clear hfz13_11
            try clear hfz13_2
            try clear hfz13_3
            try clear hfz13_4
            try clear hfz13_5
            try clear hfz13_6
            try clear hfz13_7
            try clear hfz13_8
            try clear hfz13_9
            try clear hfz4_0
            try clear hfz4_1
            try clear hfz4_10
            try clear hfz4_11
            try clear hfz4_2
            try clear hfz4_3
            try clear hfz4_4
            try clear hfz4_5
            try clear hfz4_6
            try clear hfz4_7
            try clear hfz4_8
            try clear hfz4_9
            try clear hfz6_0
            try clear hfz6_1
            try clear hfz6_10
            try clear hfz6_11
            try clear hfz6_2
            try clear hfz6_3
            try clear hfz6_4
            try clear hfz6_5
            try clear hfz6_6
            try clear hfz6_7
            try clear hfz6_8
            try clear hfz6_9
            try clear hx102_0
            try clear p102
            try clear p2
            try clear p6
            try clear q102
            obtain ⟨x3_2, x48_2, rfl, rfl, HA, HK2, BK101, HB⟩ := hrel
            cases gk with
            | zero => exact absurd HA.out (by simp [tattlerref22_Great.l1])
            | succ k2 =>
              have H := HA.out
              clear HA
              simp only [tattlerref22_Great.l1] at H
              by_cases c14 : x48_2 < (l0_9.length : Int)
              · rw [if_pos c14] at H
                have c14b0 : decide (x48_2 < (l0_9.length : Int)) = true := decide_eq_true c14
                clear c14
                by_cases c15 : 0 ≤ x48_2
                · rw [if_pos c15] at H
                  have c15b0 : decide (0 ≤ x48_2) = true := decide_eq_true c15
                  clear c15
                  by_cases c16 : x48_2 < (l0_9.length : Int)
                  · rw [if_pos c16] at H
                    have c16b0 : decide (x48_2 < (l0_9.length : Int)) = true := decide_eq_true c16
                    clear c16
                    by_cases c17 : (wrap64 (x3_2 + (wrap64 ((((rd_T54 l0_9 x48_2).f0).size : Int) + (((rd_T54 l0_9 x48_2).f5).size : Int))))) > 9000
                    · rw [if_pos c17] at H
                      have c17b0 : decide (9000 < (wrap64 (x3_2 + (wrap64 ((((rd_T54 l0_9 x48_2).f0).size : Int) + (((rd_T54 l0_9 x48_2).f5).size : Int)))))) = true := decide_eq_true c17
                      clear c17
                      obtain rfl := Option.some.inj H
                      have hcz18_0 : wr.cell? ⟨gb101, 0, none⟩ = some (.int .u8 a0_0) := (blk_cell BK101.out 0).trans rfl
                      have hcz18_1 : wr.cell? ⟨gb101, 1, none⟩ = some (.int .u8 a0_1) := (blk_cell BK101.out 1).trans rfl
                      have hcz18_2 : wr.cell? ⟨gb101, 2, none⟩ = some (.int .u8 a0_2) := (blk_cell BK101.out 2).trans rfl
                      have hcz18_3 : wr.cell? ⟨gb101, 3, none⟩ = some (.int .u32 a0_3) := (blk_cell BK101.out 3).trans rfl
                      have hcz18_4 : wr.cell? ⟨gb101, 4, none⟩ = some (.int .u8 a0_4) := (blk_cell BK101.out 4).trans rfl
                      have hcz18_5 : wr.cell? ⟨gb101, 5, none⟩ = some (.int .u8 a0_5) := (blk_cell BK101.out 5).trans rfl
                      have hcz18_6 : wr.cell? ⟨gb101, 6, none⟩ = some (.bool a0_6) := (blk_cell BK101.out 6).trans rfl
                      have hcz18_7 : wr.cell? ⟨gb101, 7, none⟩ = some (.slice A0_7 l0_7.length c0_7) := (blk_cell BK101.out 7).trans rfl
                      have hcz18_8 : wr.cell? ⟨gb101, 8, none⟩ = some (.slice A0_8 l0_8.length c0_8) := (blk_cell BK101.out 8).trans rfl
                      have hcz18_9 : wr.cell? ⟨gb101, 9, none⟩ = some (.slice A0_9 l0_9.length c0_9) := (blk_cell BK101.out 9).trans rfl
                      have hcz18_10 : wr.cell? ⟨gb101, 10, none⟩ = some (.slice A0_10 l0_10.length c0_10) := (blk_cell BK101.out 10).trans rfl
                      have hcz18_11 : wr.cell? ⟨gb101, 11, none⟩ = some (.slice A0_11 l0_11.length c0_11) := (blk_cell BK101.out 11).trans rfl
                      have hfz18_0 := blk_frozen BK101.out 0
                      have hfz18_1 := blk_frozen BK101.out 1
                      have hfz18_2 := blk_frozen BK101.out 2
                      have hfz18_3 := blk_frozen BK101.out 3
                      have hfz18_4 := blk_frozen BK101.out 4
                      have hfz18_5 := blk_frozen BK101.out 5
                      have hfz18_6 := blk_frozen BK101.out 6
                      have hfz18_7 := blk_frozen BK101.out 7
                      have hfz18_8 := blk_frozen BK101.out 8
                      have hfz18_9 := blk_frozen BK101.out 9
                      have hfz18_10 := blk_frozen BK101.out 10
                      have hfz18_11 := blk_frozen BK101.out 11
                      have p103 : 0 ≤ (x48_2 : Int) := of_decide_eq_true (by first | (with_reducible assumption) | assumption)
                      have q103 : x48_2 < (l0_9.length : Int) := of_decide_eq_true (by first | (with_reducible assumption) | assumption)
                      obtain ⟨ad103, e103, hx103_0, hx103_1, hx103_2, hx103_3, hx103_4, hx103_5, hx103_6, hx103_7⟩ := at_T54 HR0_9.out x48_2 p103 q103
                      cases e103
                      replace hx103_0 := (HB.out.cell (World.block_lt_of_cell? w _ hx103_0)).trans hx103_0
                      replace hx103_1 := (HB.out.cell (World.block_lt_of_cell? w _ hx103_1)).trans hx103_1
                      replace hx103_2 := (HB.out.cell (World.block_lt_of_cell? w _ hx103_2)).trans hx103_2
                      replace hx103_3 := (HB.out.cell (World.block_lt_of_cell? w _ hx103_3)).trans hx103_3
                      replace hx103_4 := (HB.out.cell (World.block_lt_of_cell? w _ hx103_4)).trans hx103_4
                      replace hx103_5 := (HB.out.cell (World.block_lt_of_cell? w _ hx103_5)).trans hx103_5
                      replace hx103_6 := (HB.out.cell (World.block_lt_of_cell? w _ hx103_6)).trans hx103_6
                      replace hx103_7 := (HB.out.cell (World.block_lt_of_cell? w _ hx103_7)).trans hx103_7
                      replace p103 := eq_true p103
                      replace q103 := eq_true q103
                      have p104 : 0 ≤ (x48_2 : Int) := of_decide_eq_true (by first | (with_reducible assumption) | assumption)
                      have q104 : x48_2 < (l0_9.length : Int) := of_decide_eq_true (by first | (with_reducible assumption) | assumption)
                      obtain ⟨ad104, e104, hx104_0, hx104_1, hx104_2, hx104_3, hx104_4, hx104_5, hx104_6, hx104_7⟩ := at_T54 HR0_9.out x48_2 p104 q104
                      obtain rfl : ad103 = ad104 := (by injection e104)
                      replace hx104_0 := (HB.out.cell (World.block_lt_of_cell? w _ hx104_0)).trans hx104_0
                      replace hx104_1 := (HB.out.cell (World.block_lt_of_cell? w _ hx104_1)).trans hx104_1
                      replace hx104_2 := (HB.out.cell (World.block_lt_of_cell? w _ hx104_2)).trans hx104_2
                      replace hx104_3 := (HB.out.cell (World.block_lt_of_cell? w _ hx104_3)).trans hx104_3
                      replace hx104_4 := (HB.out.cell (World.block_lt_of_cell? w _ hx104_4)).trans hx104_4
                      replace hx104_5 := (HB.out.cell (World.block_lt_of_cell? w _ hx104_5)).trans hx104_5
                      replace hx104_6 := (HB.out.cell (World.block_lt_of_cell? w _ hx104_6)).trans hx104_6
                      replace hx104_7 := (HB.out.cell (World.block_lt_of_cell? w _ hx104_7)).trans hx104_7
                      replace p104 := eq_true p104
                      replace q104 := eq_true q104
                      go_wp2
                      repeat (go_quiet (fail); try go_wp2)
                      go_ret
                      exact ⟨by first | rfl | (simp [errW_none, errW_some] <;> rfl) | (simp [*, errW_none, errW_some] <;> rfl), by repeat (first | (with_reducible first | exact HB.out | apply below_alloc | apply pw_below_drewN | apply below_drew1 | refine below_set ?_ GE101.out) | exact HB.out)⟩
                    · rw [if_neg c17] at H
                      have c17b0 : decide (9000 < (wrap64 (x3_2 + (wrap64 ((((rd_T54 l0_9 x48_2).f0).size : Int) + (((rd_T54 l0_9 x48_2).f5).size : Int)))))) = false := decide_eq_false c17
                      clear c17
                      have H' := Aside0.mk H
                      clear H
                      have hcz19_0 : wr.cell? ⟨gb101, 0, none⟩ = some (.int .u8 a0_0) := (blk_cell BK101.out 0).trans rfl
                      have hcz19_1 : wr.cell? ⟨gb101, 1, none⟩ = some (.int .u8 a0_1) := (blk_cell BK101.out 1).trans rfl
                      have hcz19_2 : wr.cell? ⟨gb101, 2, none⟩ = some (.int .u8 a0_2) := (blk_cell BK101.out 2).trans rfl
                      have hcz19_3 : wr.cell? ⟨gb101, 3, none⟩ = some (.int .u32 a0_3) := (blk_cell BK101.out 3).trans rfl
                      have hcz19_4 : wr.cell? ⟨gb101, 4, none⟩ = some (.int .u8 a0_4) := (blk_cell BK101.out 4).trans rfl
                      have hcz19_5 : wr.cell? ⟨gb101, 5, none⟩ = some (.int .u8 a0_5) := (blk_cell BK101.out 5).trans rfl
                      have hcz19_6 : wr.cell? ⟨gb101, 6, none⟩ = some (.bool a0_6) := (blk_cell BK101.out 6).trans rfl
                      have hcz19_7 : wr.cell? ⟨gb101, 7, none⟩ = some (.slice A0_7 l0_7.length c0_7) := (blk_cell BK101.out 7).trans rfl
                      have hcz19_8 : wr.cell? ⟨gb101, 8, none⟩ = some (.slice A0_8 l0_8.length c0_8) := (blk_cell BK101.out 8).trans rfl
                      have hcz19_9 : wr.cell? ⟨gb101, 9, none⟩ = some (.slice A0_9 l0_9.length c0_9) := (blk_cell BK101.out 9).trans rfl
                      have hcz19_10 : wr.cell? ⟨gb101, 10, none⟩ = some (.slice A0_10 l0_10.length c0_10) := (blk_cell BK101.out 10).trans rfl
                      have hcz19_11 : wr.cell? ⟨gb101, 11, none⟩ = some (.slice A0_11 l0_11.length c0_11) := (blk_cell BK101.out 11).trans rfl
                      have hfz19_0 := blk_frozen BK101.out 0
                      have hfz19_1 := blk_frozen BK101.out 1
                      have hfz19_2 := blk_frozen BK101.out 2
                      have hfz19_3 := blk_frozen BK101.out 3
                      have hfz19_4 := blk_frozen BK101.out 4
                      have hfz19_5 := blk_frozen BK101.out 5
                      have hfz19_6 := blk_frozen BK101.out 6
                      have hfz19_7 := blk_frozen BK101.out 7
                      have hfz19_8 := blk_frozen BK101.out 8
                      have hfz19_9 := blk_frozen BK101.out 9
                      have hfz19_10 := blk_frozen BK101.out 10
                      have hfz19_11 := blk_frozen BK101.out 11
                      have p103 : 0 ≤ (x48_2 : Int) := of_decide_eq_true (by first | (with_reducible assumption) | assumption)
                      have q103 : x48_2 < (l0_9.length : Int) := of_decide_eq_true (by first | (with_reducible assumption) | assumption)
                      obtain ⟨ad103, e103, hx103_0, hx103_1, hx103_2, hx103_3, hx103_4, hx103_5, hx103_6, hx103_7⟩ := at_T54 HR0_9.out x48_2 p103 q103
                      cases e103
                      replace hx103_0 := (HB.out.cell (World.block_lt_of_cell? w _ hx103_0)).trans hx103_0
                      replace hx103_1 := (HB.out.cell (World.block_lt_of_cell? w _ hx103_1)).trans hx103_1
                      replace hx103_2 := (HB.out.cell (World.block_lt_of_cell? w _ hx103_2)).trans hx103_2
                      replace hx103_3 := (HB.out.cell (World.block_lt_of_cell? w _ hx103_3)).trans hx103_3
                      replace hx103_4 := (HB.out.cell (World.block_lt_of_cell? w _ hx103_4)).trans hx103_4
                      replace hx103_5 := (HB.out.cell (World.block_lt_of_cell? w _ hx103_5)).trans hx103_5
                      replace hx103_6 := (HB.out.cell (World.block_lt_of_cell? w _ hx103_6)).trans hx103_6
                      replace hx103_7 := (HB.out.cell (World.block_lt_of_cell? w _ hx103_7)).trans hx103_7
                      replace p103 := eq_true p103
                      replace q103 := eq_true q103
                      have p104 : 0 ≤ (x48_2 : Int) := of_decide_eq_true (by first | (with_reducible assumption) | assumption)
                      have q104 : x48_2 < (l0_9.length : Int) := of_decide_eq_true (by first | (with_reducible assumption) | assumption)
                      obtain ⟨ad104, e104, hx104_0, hx104_1, hx104_2, hx104_3, hx104_4, hx104_5, hx104_6, hx104_7⟩ := at_T54 HR0_9.out x48_2 p104 q104
                      obtain rfl : ad103 = ad104 := (by injection e104)
                      replace hx104_0 := (HB.out.cell (World.block_lt_of_cell? w _ hx104_0)).trans hx104_0
                      replace hx104_1 := (HB.out.cell (World.block_lt_of_cell? w _ hx104_1)).trans hx104_1
                      replace hx104_2 := (HB.out.cell (World.block_lt_of_cell? w _ hx104_2)).trans hx104_2
                      replace hx104_3 := (HB.out.cell (World.block_lt_of_cell? w _ hx104_3)).trans hx104_3
                      replace hx104_4 := (HB.out.cell (World.block_lt_of_cell? w _ hx104_4)).trans hx104_4
                      replace hx104_5 := (HB.out.cell (World.block_lt_of_cell? w _ hx104_5)).trans hx104_5
                      replace hx104_6 := (HB.out.cell (World.block_lt_of_cell? w _ hx104_6)).trans hx104_6
                      replace hx104_7 := (HB.out.cell (World.block_lt_of_cell? w _ hx104_7)).trans hx104_7
                      replace p104 := eq_true p104
                      replace q104 := eq_true q104
                      go_wp2
                      repeat (go_quiet (fail); try go_wp2)
                      go_roundg k2
                      case measure => have := HK1.out; have := HK2.out; omega
                      case rel => exact ⟨(wrap64 (x3_2 + (wrap64 ((((rd_T54 l0_9 x48_2).f0).size : Int) + (((rd_T54 l0_9 x48_2).f5).size : Int))))), (wrap64 (x48_2 + 1)), (by first | rfl | (simp; done) | (simp [*]; done)), (by first | rfl | (simp; done) | (simp [*]; done)), H', ⟨by have := HK1.out; have := HK2.out; omega⟩, ⟨by (with_reducible repeat (first | refine blk_drewN ?_ _ | refine blk_drew ?_ | refine blk_alloc ?_ _)); exact BK101.out⟩, ⟨by repeat (first | (with_reducible first | exact HB.out | apply below_alloc | apply pw_below_drewN | apply below_drew1 | refine below_set ?_ GE101.out) | exact HB.out)⟩⟩
                  · rw [if_neg c16] at H
                    exact absurd H (by simp)
                · rw [if_neg c15] at H
                  exact absurd H (by simp)
              · rw [if_neg c14] at H
                have c14b0 : decide (x48_2 < (l0_9.length : Int)) = false := decide_eq_false c14
                clear c14
                have H' := Aside0.mk H
                clear H
                have hcz20_0 : wr.cell? ⟨gb101, 0, none⟩ = some (.int .u8 a0_0) := (blk_cell BK101.out 0).trans rfl
                have hcz20_1 : wr.cell? ⟨gb101, 1, none⟩ = some (.int .u8 a0_1) := (blk_cell BK101.out 1).trans rfl
                have hcz20_2 : wr.cell? ⟨gb101, 2, none⟩ = some (.int .u8 a0_2) := (blk_cell BK101.out 2).trans rfl
                have hcz20_3 : wr.cell? ⟨gb101, 3, none⟩ = some (.int .u32 a0_3) := (blk_cell BK101.out 3).trans rfl
                have hcz20_4 : wr.cell? ⟨gb101, 4, none⟩ = some (.int .u8 a0_4) := (blk_cell BK101.out 4).trans rfl
                have hcz20_5 : wr.cell? ⟨gb101, 5, none⟩ = some (.int .u8 a0_5) := (blk_cell BK101.out 5).trans rfl
                have hcz20_6 : wr.cell? ⟨gb101, 6, none⟩ = some (.bool a0_6) := (blk_cell BK101.out 6).trans rfl
                have hcz20_7 : wr.cell? ⟨gb101, 7, none⟩ = some (.slice A0_7 l0_7.length c0_7) := (blk_cell BK101.out 7).trans rfl
                have hcz20_8 : wr.cell? ⟨gb101, 8, none⟩ = some (.slice A0_8 l0_8.length c0_8) := (blk_cell BK101.out 8).trans rfl
                have hcz20_9 : wr.cell? ⟨gb101, 9, none⟩ = some (.slice A0_9 l0_9.length c0_9) := (blk_cell BK101.out 9).trans rfl
                have hcz20_10 : wr.cell? ⟨gb101, 10, none⟩ = some (.slice A0_10 l0_10.length c0_10) := (blk_cell BK101.out 10).trans rfl
                have hcz20_11 : wr.cell? ⟨gb101, 11, none⟩ = some (.slice A0_11 l0_11.length c0_11) := (blk_cell BK101.out 11).trans rfl
                have hfz20_0 := blk_frozen BK101.out 0
                have hfz20_1 := blk_frozen BK101.out 1
                have hfz20_2 := blk_frozen BK101.out 2
                have hfz20_3 := blk_frozen BK101.out 3
                have hfz20_4 := blk_frozen BK101.out 4
                have hfz20_5 := blk_frozen BK101.out 5
                have hfz20_6 := blk_frozen BK101.out 6
                have hfz20_7 := blk_frozen BK101.out 7
                have hfz20_8 := blk_frozen BK101.out 8
                have hfz20_9 := blk_frozen BK101.out 9
                have hfz20_10 := blk_frozen BK101.out 10
                have hfz20_11 := blk_frozen BK101.out 11
                go_wp2
                repeat (go_quiet (fail); try go_wp2)
                go_loopg [3, 74] k2 (fun kq v3 v74 w' => ∃ (x3_3 : Int) (x74_3 : Int), v3 = .int .i64 x3_3 ∧ v74 = .int .i64 x74_3 ∧ Aside0 (tattlerref22_Great.l2 kq x3_3 (l0_10.length : Int) x74_3 a0_0 a0_1 a0_2 a0_3 a0_4 a0_5 a0_6 l0_7 l0_8 l0_9 l0_10 l0_11 = some r) ∧ Aside0 (kq ≤ k2) ∧ Aside0 (w'.heap[gb101]? = some (.cells #[.int .u8 a0_0, .int .u8 a0_1, .int .u8 a0_2, .int .u32 a0_3, .int .u8 a0_4, .int .u8 a0_5, .bool a0_6, (.slice A0_7 l0_7.length c0_7), (.slice A0_8 l0_8.length c0_8), (.slice A0_9 l0_9.length c0_9), (.slice A0_10 l0_10.length c0_10), (.slice A0_11 l0_11.length c0_11)] 29 (0, 0))) ∧ Aside0 (Below w.heap.size w w'))
                case atStart => exact ⟨(x3_2), (0), (by first | rfl | (simp; done) | (simp [*]; done)), (by first | rfl | (simp; done) | (simp [*]; done)), H', ⟨Nat.le_refl _⟩, ⟨by (with_reducible repeat (first | refine blk_drewN ?_ _ | refine blk_drew ?_ | refine blk_alloc ?_ _)); exact BK101.out⟩, ⟨by repeat (first | (with_reducible first | exact HB.out | apply below_alloc | apply pw_below_drewN | apply below_drew1 | refine below_set ?_ GE101.out) | exact HB.out)⟩⟩
                case round =>
                  clear H'
                  try clear c1
                  try clear p1
                  try clear q1
                  try clear hx1
                  try clear c2
                  try clear c2b0
                  try clear p2
                  try clear p6
                  try clear c7
                  try clear c7b0
                  try clear c8
                  try clear c8b0
                  try clear c9
                  try clear c9b0
                  try clear c10
                  try clear c10b0
                  try clear p10
                  try clear q10
                  try clear hx10
                  try clear c14
                  try clear c14b0
                  try clear c15
                  try clear c15b0
                  try clear c16
                  try clear c16b0
                  try clear c17
                  try clear c17b0
                  try clear hcz11_0
                  try clear hcz11_1
                  try clear hcz11_10
                  try clear hcz11_11
                  try clear hcz11_2
                  try clear hcz11_3
                  try clear hcz11_4
                  try clear hcz11_5
                  try clear hcz11_6
                  try clear hcz11_7
                  try clear hcz11_8
                  try clear hcz11_9
                  try clear hcz12_0
                  try clear hcz12_1
                  try clear hcz12_10
                  try clear hcz12_11
                  try clear hcz12_2
                  try clear hcz12_3
                  try clear hcz12_4
                  try clear hcz12_5
                  try clear hcz12_6
                  try clear hcz12_7
                  try clear hcz12_8
                  try clear hcz12_9
                  try clear hcz13_0
                  try clear hcz13_1
                  try clear hcz13_10
                  try clear hcz13_11
                  try clear hcz13_2
                  try clear hcz13_3
                  try clear hcz13_4
                  try clear hcz13_5
                  try clear hcz13_6
                  try clear hcz13_7
                  try clear hcz13_8
                  try clear hcz13_9
                  try clear hcz18_0
                  try clear hcz18_1
                  try clear hcz18_10
                  try clear hcz18_11
                  try clear hcz18_2
                  try clear hcz18_3
                  try clear hcz18_4
                  try clear hcz18_5
                  try clear hcz18_6
                  try clear hcz18_7
                  try clear hcz18_8
                  try clear hcz18_9
                  try clear hcz19_0
                  try clear hcz19_1
                  try clear hcz19_10
                  try clear hcz19_11
                  try clear hcz19_2
                  try clear hcz19_3
                  try clear hcz19_4
                  try clear hcz19_5
                  try clear hcz19_6
                  try clear hcz19_7
                  try clear hcz19_8
                  try clear hcz19_9
                  try clear hcz20_0
                  try clear hcz20_1
                  try clear hcz20_10
                  try clear hcz20_11
                  try clear hcz20_2
                  try clear hcz20_3
                  try clear hcz20_4
                  try clear hcz20_5
                  try clear hcz20_6
                  try clear hcz20_7
                  try clear hcz20_8
                  try clear hcz20_9
                  try clear hcz4_0
                  try clear hcz4_1
                  try clear hcz4_10
                  try clear hcz4_11
                  try clear hcz4_2
                  try clear hcz4_3
                  try clear hcz4_4
                  try clear hcz4_5
                  try clear hcz4_6
                  try clear hcz4_7
                  try clear hcz4_8
                  try clear hcz4_9
                  try clear hcz6_0
                  try clear hcz6_1
                  try clear hcz6_10
                  try clear hcz6_11
                  try clear hcz6_2
                  try clear hcz6_3
                  try clear hcz6_4
                  try clear hcz6_5
                  try clear hcz6_6
                  try clear hcz6_7
                  try clear hcz6_8
                  try clear hcz6_9
                  try clear hfz11_0
                  try clear hfz11_1
                  try clear hfz11_10
                  try clear hfz11_11
                  try clear hfz11_2
                  try clear hfz11_3
                  try clear hfz11_4
                  try clear hfz11_5
                  try clear hfz11_6
                  try clear hfz11_7
                  try clear hfz11_8
                  try clear hfz11_9
                  try clear hfz12_0
                  try clear hfz12_1
                  try clear hfz12_10
                  try clear hfz12_11
                  try clear hfz12_2
                  try clear hfz12_3
                  try clear hfz12_4
                  try clear hfz12_5
                  try clear hfz12_6
                  try clear hfz12_7
                  try clear hfz12_8
                  try clear hfz12_9
                  try clear hfz13_0
                  try clear hfz13_1
                  try clear hfz13_10
                  try clear hfz13_11
                  try clear hfz13_2
                  try clear hfz13_3
                  try clear hfz13_4
                  try clear hfz13_5
                  try clear hfz13_6
                  try clear hfz13_7
                  try clear hfz13_8
                  try clear hfz13_9
                  try clear hfz18_0
                  try clear hfz18_1
                  try clear hfz18_10
                  try clear hfz18_11
                  try clear hfz18_2
                  try clear hfz18_3
                  try clear hfz18_4
                  try clear hfz18_5
                  try clear hfz18_6
                  try clear hfz18_7
                  try clear hfz18_8
                  try clear hfz18_9
                  try clear hfz19_0
                  try clear hfz19_1
                  try clear hfz19_10
                  try clear hfz19_11
                  try clear hfz19_2
                  try clear hfz19_3
                  try clear hfz19_4
                  try clear hfz19_5
                  try clear hfz19_6
                  try clear hfz19_7
                  try clear hfz19_8
                  try clear hfz19_9
                  try clear hfz20_0
                  try clear hfz20_1
                  try clear hfz20_10
                  try clear hfz20_11
                  try clear hfz20_2
                  try clear hfz20_3
                  try clear hfz20_4
                  try clear hfz20_5
                  try clear hfz20_6
                  try clear hfz20_7
                  try clear hfz20_8
                  try clear hfz20_9
                  try clear hfz4_0
                  try clear hfz4_1
                  try clear hfz4_10
                  try clear hfz4_11
                  try clear hfz4_2
                  try clear hfz4_3
                  try clear hfz4_4
                  try clear hfz4_5
                  try clear hfz4_6
                  try clear hfz4_7
                  try clear hfz4_8
                  try clear hfz4_9
                  try clear hfz6_0
                  try clear hfz6_1
                  try clear hfz6_10
                  try clear hfz6_11
                  try clear hfz6_2
                  try clear hfz6_3
                  try clear hfz6_4
                  try clear hfz6_5
                  try clear hfz6_6
                  try clear hfz6_7
                  try clear hfz6_8
                  try clear hfz6_9
                  try clear hx102_0
                  try clear hx103_0
                  try clear hx103_1
                  try clear hx103_2
                  try clear hx103_3
                  try clear hx103_4
                  try clear hx103_5
                  try clear hx103_6
                  try clear hx103_7
                  try clear hx104_0
                  try clear hx104_1
                  try clear hx104_2
                  try clear hx104_3
                  try clear hx104_4
                  try clear hx104_5
                  try clear hx104_6
                  try clear hx104_7
                  try clear p1
                  try clear p10
                  try clear p102
                  try clear p103
                  try clear p104
                  try clear p2
                  try clear p6
                  try clear q1
                  try clear q10
                  try clear q102
                  try clear q103
                  try clear q104
                  obtain ⟨x3_3, x74_3, rfl, rfl, HA, HK3, BK101, HB⟩ := hrel
                  cases gk with
                  | zero => exact absurd HA.out (by simp [tattlerref22_Great.l2])
                  | succ k3 =>
                    have H := HA.out
                    clear HA
                    simp only [tattlerref22_Great.l2] at H
                    by_cases c21 : x74_3 < (l0_10.length : Int)
                    · rw [if_pos c21] at H
                      have c21b0 : decide (x74_3 < (l0_10.length : Int)) = true := decide_eq_true c21
                      clear c21
                      by_cases c22 : 0 ≤ x74_3
                      · rw [if_pos c22] at H
                        have c22b0 : decide (0 ≤ x74_3) = true := decide_eq_true c22
                        clear c22
                        by_cases c23 : x74_3 < (l0_10.length : Int)
                        · rw [if_pos c23] at H
                          have c23b0 : decide (x74_3 < (l0_10.length : Int)) = true := decide_eq_true c23
                          clear c23
                          by_cases c24 : (wrap64 (x3_3 + (((rd_T56 l0_10 x74_3).f0).size : Int))) > 9000
                          · rw [if_pos c24] at H
                            have c24b0 : decide (9000 < (wrap64 (x3_3 + (((rd_T56 l0_10 x74_3).f0).size : Int)))) = true := decide_eq_true c24
                            clear c24
                            obtain rfl := Option.some.inj H
                            have hcz25_0 : wr.cell? ⟨gb101, 0, none⟩ = some (.int .u8 a0_0) := (blk_cell BK101.out 0).trans rfl
                            have hcz25_1 : wr.cell? ⟨gb101, 1, none⟩ = some (.int .u8 a0_1) := (blk_cell BK101.out 1).trans rfl
                            have hcz25_2 : wr.cell? ⟨gb101, 2, none⟩ = some (.int .u8 a0_2) := (blk_cell BK101.out 2).trans rfl
                            have hcz25_3 : wr.cell? ⟨gb101, 3, none⟩ = some (.int .u32 a0_3) := (blk_cell BK101.out 3).trans rfl
                            have hcz25_4 : wr.cell? ⟨gb101, 4, none⟩ = some (.int .u8 a0_4) := (blk_cell BK101.out 4).trans rfl
                            have hcz25_5 : wr.cell? ⟨gb101, 5, none⟩ = some (.int .u8 a0_5) := (blk_cell BK101.out 5).trans rfl
                            have hcz25_6 : wr.cell? ⟨gb101, 6, none⟩ = some (.bool a0_6) := (blk_cell BK101.out 6).trans rfl
                            have hcz25_7 : wr.cell? ⟨gb101, 7, none⟩ = some (.slice A0_7 l0_7.length c0_7) := (blk_cell BK101.out 7).trans rfl
                            have hcz25_8 : wr.cell? ⟨gb101, 8, none⟩ = some (.slice A0_8 l0_8.length c0_8) := (blk_cell BK101.out 8).trans rfl
                            have hcz25_9 : wr.cell? ⟨gb101, 9, none⟩ = some (.slice A0_9 l0_9.length c0_9) := (blk_cell BK101.out 9).trans rfl
                            have hcz25_10 : wr.cell? ⟨gb101, 10, none⟩ = some (.slice A0_10 l0_10.length c0_10) := (blk_cell BK101.out 10).trans rfl
                            have hcz25_11 : wr.cell? ⟨gb101, 11, none⟩ = some (.slice A0_11 l0_11.length c0_11) := (blk_cell BK101.out 11).trans rfl
                            have hfz25_0 := blk_frozen BK101.out 0
                            have hfz25_1 := blk_frozen BK101.out 1
                            have hfz25_2 := blk_frozen BK101.out 2
                            have hfz25_3 := blk_frozen BK101.out 3
                            have hfz25_4 := blk_frozen BK101.out 4
                            have hfz25_5 := blk_frozen BK101.out 5
                            have hfz25_6 := blk_frozen BK101.out 6
                            have hfz25_7 := blk_frozen BK101.out 7
                            have hfz25_8 := blk_frozen BK101.out 8
                            have hfz25_9 := blk_frozen BK101.out 9
                            have hfz25_10 := blk_frozen BK101.out 10
                            have hfz25_11 := blk_frozen BK101.out 11
                            have p105 : 0 ≤ (x74_3 : Int) := of_decide_eq_true (by first | (with_reducible assumption) | assumption)
                            have q105 : x74_3 < (l0_10.length : Int) := of_decide_eq_true (by first | (with_reducible assumption) | assumption)
                            obtain ⟨ad105, e105, hx105_0, hx105_1, hx105_2, hx105_3, hx105_4⟩ := at_T56 HR0_10.out x74_3 p105 q105
                            cases e105
                            replace hx105_0 := (HB.out.cell (World.block_lt_of_cell? w _ hx105_0)).trans hx105_0
                            replace hx105_1 := (HB.out.cell (World.block_lt_of_cell? w _ hx105_1)).trans hx105_1
                            replace hx105_2 := (HB.out.cell (World.block_lt_of_cell? w _ hx105_2)).trans hx105_2
                            replace hx105_3 := (HB.out.cell (World.block_lt_of_cell? w _ hx105_3)).trans hx105_3
                            replace hx105_4 := (HB.out.cell (World.block_lt_of_cell? w _ hx105_4)).trans hx105_4
                            replace p105 := eq_true p105
                            replace q105 := eq_true q105
                            go_wp2
                            repeat (go_quiet (fail); try go_wp2)
                            go_ret
                            exact ⟨by first | rfl | (simp [errW_none, errW_some] <;> rfl) | (simp [*, errW_none, errW_some] <;> rfl), by repeat (first | (with_reducible first | exact HB.out | apply below_alloc | apply pw_below_drewN | apply below_drew1 | refine below_set ?_ GE101.out) | exact HB.out)⟩
                          · rw [if_neg c24] at H
                            have c24b0 : decide (9000 < (wrap64 (x3_3 + (((rd_T56 l0_10 x74_3).f0).size : Int)))) = false := decide_eq_false c24
                            clear c24
                            have H' := Aside0.mk H
                            clear H
                            have hcz26_0 : wr.cell? ⟨gb101, 0, none⟩ = some (.int .u8 a0_0) := (blk_cell BK101.out 0).trans rfl
                            have hcz26_1 : wr.cell? ⟨gb101, 1, none⟩ = some (.int .u8 a0_1) := (blk_cell BK101.out 1).trans rfl
                            have hcz26_2 : wr.cell? ⟨gb101, 2, none⟩ = some (.int .u8 a0_2) := (blk_cell BK101.out 2).trans rfl
                            have hcz26_3 : wr.cell? ⟨gb101, 3, none⟩ = some (.int .u32 a0_3) := (blk_cell BK101.out 3).trans rfl
                            have hcz26_4 : wr.cell? ⟨gb101, 4, none⟩ = some (.int .u8 a0_4) := (blk_cell BK101.out 4).trans rfl
                            have hcz26_5 : wr.cell? ⟨gb101, 5, none⟩ = some (.int .u8 a0_5) := (blk_cell BK101.out 5).trans rfl
                            have hcz26_6 : wr.cell? ⟨gb101, 6, none⟩ = some (.bool a0_6) := (blk_cell BK101.out 6).trans rfl
                            have hcz26_7 : wr.cell? ⟨gb101, 7, none⟩ = some (.slice A0_7 l0_7.length c0_7) := (blk_cell BK101.out 7).trans rfl
                            have hcz26_8 : wr.cell? ⟨gb101, 8, none⟩ = some (.slice A0_8 l0_8.length c0_8) := (blk_cell BK101.out 8).trans rfl
                            have hcz26_9 : wr.cell? ⟨gb101, 9, none⟩ = some (.slice A0_9 l0_9.length c0_9) := (blk_cell BK101.out 9).trans rfl
                            have hcz26_10 : wr.cell? ⟨gb101, 10, none⟩ = some (.slice A0_10 l0_10.length c0_10) := (blk_cell BK101.out 10).trans rfl
                            have hcz26_11 : wr.cell? ⟨gb101, 11, none⟩ = some (.slice A0_11 l0_11.length c0_11) := (blk_cell BK101.out 11).trans rfl
                            have hfz26_0 := blk_frozen BK101.out 0
                            have hfz26_1 := blk_frozen BK101.out 1
                            have hfz26_2 := blk_frozen BK101.out 2
                            have hfz26_3 := blk_frozen BK101.out 3
                            have hfz26_4 := blk_frozen BK101.out 4
                            have hfz26_5 := blk_frozen BK101.out 5
                            have hfz26_6 := blk_frozen BK101.out 6
                            have hfz26_7 := blk_frozen BK101.out 7
                            have hfz26_8 := blk_frozen BK101.out 8
                            have hfz26_9 := blk_frozen BK101.out 9
                            have hfz26_10 := blk_frozen BK101.out 10
                            have hfz26_11 := blk_frozen BK101.out 11
                            have p105 : 0 ≤ (x74_3 : Int) := of_decide_eq_true (by first | (with_reducible assumption) | assumption)
                            have q105 : x74_3 < (l0_10.length : Int) := of_decide_eq_true (by first | (with_reducible assumption) | assumption)
                            obtain ⟨ad105, e105, hx105_0, hx105_1, hx105_2, hx105_3, hx105_4⟩ := at_T56 HR0_10.out x74_3 p105 q105
                            cases e105
                            replace hx105_0 := (HB.out.cell (World.block_lt_of_cell? w _ hx105_0)).trans hx105_0
                            replace hx105_1 := (HB.out.cell (World.block_lt_of_cell? w _ hx105_1)).trans hx105_1
                            replace hx105_2 := (HB.out.cell (World.block_lt_of_cell? w _ hx105_2)).trans hx105_2
                            replace hx105_3 := (HB.out.cell (World.block_lt_of_cell? w _ hx105_3)).trans hx105_3
                            replace hx105_4 := (HB.out.cell (World.block_lt_of_cell? w _ hx105_4)).trans hx105_4
                            replace p105 := eq_true p105
                            replace q105 := eq_true q105
                            go_wp2
                            repeat (go_quiet (fail); try go_wp2)
                            go_roundg k3
                            case measure => have := HK1.out; have := HK2.out; have := HK3.out; omega
                            case rel => exact ⟨(wrap64 (x3_3 + (((rd_T56 l0_10 x74_3).f0).size : Int))), (wrap64 (x74_3 + 1)), (by first | rfl | (simp; done) | (simp [*]; done)), (by first | rfl | (simp; done) | (simp [*]; done)), H', ⟨by have := HK1.out; have := HK2.out; have := HK3.out; omega⟩, ⟨by (with_reducible repeat (first | refine blk_drewN ?_ _ | refine blk_drew ?_ | refine blk_alloc ?_ _)); exact BK101.out⟩, ⟨by repeat (first | (with_reducible first | exact HB.out | apply below_alloc | apply pw_below_drewN | apply below_drew1 | refine below_set ?_ GE101.out) | exact HB.out)⟩⟩
                        · rw [if_neg c23] at H
                          exact absurd H (by simp)
                      · rw [if_neg c22] at H
                        exact absurd H (by simp)
                    · rw [if_neg c21] at H
                      have c21b0 : decide (x74_3 < (l0_10.length : Int)) = false := decide_eq_false c21
                      clear c21
                      obtain rfl := Option.some.inj H
                      go_wp2
                      repeat (go_quiet (fail); try go_wp2)
                      go_ret
                      exact ⟨by first | rfl | (simp [errW_none, errW_some] <;> rfl) | (simp [*, errW_none, errW_some] <;> rfl), by repeat (first | (with_reducible first | exact HB.out | apply below_alloc | apply pw_below_drewN | apply below_drew1 | refine below_set ?_ GE101.out) | exact HB.out)⟩

end Go.Proofs.Ytdjompbhlkgmbaa.PMsg
end
section
/- What the reference's printed Great computes (own text; written by wip/tools/gen_msggreat.py). -/
namespace Go.Proofs.Ytdjompbhlkgmbaa.Msg
open Go.RowKit Go.Proofs.YtdjompbhlkgmbaaW.PrintWords Go.Proofs.YtdjompbhlkgmbaaW.PrintLast Go.Proofs.YtdjompbhlkgmbaaW.PrintMore Go.Proofs.Ytdjompbhlkgmbaa.PMsg
set_option linter.unusedVariables false
set_option linter.unusedSimpArgs false
/-- A message that came in: its numbers in their types' bounds, its texts and lists in the machine's reach. -/
structure OkM (m : M) : Prop where
  kind : isB m.kind 255
  fr : isB m.fr 255
  dst : isB m.dst 255
  id : isB m.id 4294967295
  tg : isB m.tg 255
  rg : isB m.rg 255
  n1 : m.news.length ≤ 140737488351232
  n2 : m.keys.length ≤ 140737488351232
  n3 : m.recs.length ≤ 140737488351232
  n4 : m.seen.length ≤ 140737488351232
  n5 : m.digs.length ≤ 140737488351232
  news : ∀ x, x ∈ m.news → isB x.f0 255 ∧ isB x.f1.f0 255 ∧ isB x.f1.f1 4294967295
  keys : ∀ x, x ∈ m.keys → x.size ≤ 140737488351232
  recs : ∀ x, x ∈ m.recs → (x.f0.size ≤ 140737488351232 ∧ x.f5.size ≤ 140737488351232) ∧ (0 ≤ x.f1.f0 ∧ x.f1.f0 ≤ 18446744073709551615) ∧ (0 ≤ x.f1.f1 ∧ x.f1.f1 ≤ 4294967295) ∧ (0 ≤ x.f1.f2 ∧ x.f1.f2 ≤ 255) ∧ (0 ≤ x.f2 ∧ x.f2 ≤ 255) ∧ (0 ≤ x.f3 ∧ x.f3 ≤ 4294967295) ∧ (0 ≤ x.f4 ∧ x.f4 ≤ 18446744073709551615)
  seen : ∀ x, x ∈ m.seen → x.f0.size ≤ 140737488351232 ∧ isB x.f1.f0 18446744073709551615 ∧ isB x.f1.f1 4294967295 ∧ isB x.f1.f2 255 ∧ isB x.f2 255
  digs : ∀ x, x ∈ m.digs → isB x 18446744073709551615
theorem loopG {α : Type} (l : List α) (g : α → Nat) (F : Nat → Nat → Nat → Option Bool) (G : Nat → Nat → Option Bool)
    (hs : ∀ k n i (h : i < l.length), n ≤ 9000 → F (k + 1) n i = if n + g l[i] > 9000 then some true else F k (n + g l[i]) (i + 1)) (he : ∀ k n, F (k + 1) n l.length = G k n) :
    ∀ d k n i, i + d = l.length → n ≤ 9000 → F (k + d + 1) n i = if n + ((l.drop i).map g).sum > 9000 then some true else G k (n + ((l.drop i).map g).sum)
  | 0, k, n, i, hi, hn => by
    obtain rfl : i = l.length := by omega
    rw [List.drop_length, List.map_nil, List.sum_nil, if_neg (by omega)]
    exact he k n
  | d + 1, k, n, i, hi, hn => by
    have h : i < l.length := by omega
    rw [show k + (d + 1) + 1 = (k + d + 1) + 1 from by omega, hs _ n i h hn, List.drop_eq_getElem_cons h, List.map_cons, List.sum_cons]
    by_cases hb : n + g l[i] > 9000
    · rw [if_pos hb, if_pos (by omega)]
    · rw [if_neg hb, loopG l g F G hs he d k (n + g l[i]) (i + 1) (by omega) (by omega), Nat.add_assoc]
theorem wi2 (i : Nat) (h : i < 1000000000000000) : wrap64 ((i : Int) + 1) = ((i + 1 : Nat) : Int) := by
  rw [IntWalk.wrap64_in _ (by omega)]
  omega
theorem wadd (a b : Nat) (h : a + b ≤ 9223372036854775807) : wrap64 ((a : Int) + (b : Int)) = ((a + b : Nat) : Int) := by
  rw [IntWalk.wrap64_in _ (by omega)]
  omega
theorem gstep0 (m : M) (hs : OkM m) (k n : Nat) (i : Nat) (h : i < m.keys.length) (hn9 : n ≤ 9000) :
    tattlerref22_Great.l0 (k + 1) (n : Int) (m.keys.length : Int) (i : Int) m.kind m.fr m.dst m.id m.tg m.rg m.flag m.news m.keys m.recs m.seen m.digs = if n + m.keys[i].size > 9000 then some true else tattlerref22_Great.l0 k ((n + m.keys[i].size : Nat) : Int) (m.keys.length : Int) ((i + 1 : Nat) : Int) m.kind m.fr m.dst m.id m.tg m.rg m.flag m.news m.keys m.recs m.seen m.digs := by
  have hn := hs.n2
  have e0 : rdOf ByteArray.empty m.keys (i : Int) = m.keys[i] := by
    unfold rdOf
    rw [Int.toNat_natCast, List.getD_eq_getElem?_getD, List.getElem?_eq_getElem h]
    rfl
  simp only [tattlerref22_Great.l0]
  rw [if_pos (by omega), if_pos (by omega), if_pos (by omega)]
  simp only [e0]
  have hr := hs.keys _ (List.getElem_mem h)
  generalize m.keys[i] = x at *
  rw [wadd n x.size (by omega)]
  by_cases hb : n + x.size > 9000
  · rw [if_pos hb, if_pos (by omega)]
  · rw [if_neg hb, if_neg (by omega), wi2 i (by omega)]
theorem gend0 (m : M) (k n : Nat) : tattlerref22_Great.l0 (k + 1) (n : Int) (m.keys.length : Int) (m.keys.length : Int) m.kind m.fr m.dst m.id m.tg m.rg m.flag m.news m.keys m.recs m.seen m.digs = tattlerref22_Great.l1 k (n : Int) (m.recs.length : Int) ((0 : Nat) : Int) m.kind m.fr m.dst m.id m.tg m.rg m.flag m.news m.keys m.recs m.seen m.digs := by
  simp only [tattlerref22_Great.l0]
  rw [if_neg (by omega)]
  rfl
theorem gstep1 (m : M) (hs : OkM m) (k n : Nat) (i : Nat) (h : i < m.recs.length) (hn9 : n ≤ 9000) :
    tattlerref22_Great.l1 (k + 1) (n : Int) (m.recs.length : Int) (i : Int) m.kind m.fr m.dst m.id m.tg m.rg m.flag m.news m.keys m.recs m.seen m.digs = if n + (m.recs[i].f0.size + m.recs[i].f5.size) > 9000 then some true else tattlerref22_Great.l1 k ((n + (m.recs[i].f0.size + m.recs[i].f5.size) : Nat) : Int) (m.recs.length : Int) ((i + 1 : Nat) : Int) m.kind m.fr m.dst m.id m.tg m.rg m.flag m.news m.keys m.recs m.seen m.digs := by
  have hn := hs.n3
  have e0 : rd_T54 m.recs (i : Int) = m.recs[i] := by
    unfold rd_T54
    rw [Int.toNat_natCast, List.getD_eq_getElem?_getD, List.getElem?_eq_getElem h]
    rfl
  simp only [tattlerref22_Great.l1]
  rw [if_pos (by omega), if_pos (by omega), if_pos (by omega)]
  simp only [e0]
  have hr := hs.recs _ (List.getElem_mem h)
  generalize m.recs[i] = x at *
  rw [wadd x.f0.size x.f5.size (by omega), wadd n (x.f0.size + x.f5.size) (by omega)]
  by_cases hb : n + (x.f0.size + x.f5.size) > 9000
  · rw [if_pos hb, if_pos (by omega)]
  · rw [if_neg hb, if_neg (by omega), wi2 i (by omega)]
theorem gend1 (m : M) (k n : Nat) : tattlerref22_Great.l1 (k + 1) (n : Int) (m.recs.length : Int) (m.recs.length : Int) m.kind m.fr m.dst m.id m.tg m.rg m.flag m.news m.keys m.recs m.seen m.digs = tattlerref22_Great.l2 k (n : Int) (m.seen.length : Int) ((0 : Nat) : Int) m.kind m.fr m.dst m.id m.tg m.rg m.flag m.news m.keys m.recs m.seen m.digs := by
  simp only [tattlerref22_Great.l1]
  rw [if_neg (by omega)]
  rfl
theorem gstep2 (m : M) (hs : OkM m) (k n : Nat) (i : Nat) (h : i < m.seen.length) (hn9 : n ≤ 9000) :
    tattlerref22_Great.l2 (k + 1) (n : Int) (m.seen.length : Int) (i : Int) m.kind m.fr m.dst m.id m.tg m.rg m.flag m.news m.keys m.recs m.seen m.digs = if n + m.seen[i].f0.size > 9000 then some true else tattlerref22_Great.l2 k ((n + m.seen[i].f0.size : Nat) : Int) (m.seen.length : Int) ((i + 1 : Nat) : Int) m.kind m.fr m.dst m.id m.tg m.rg m.flag m.news m.keys m.recs m.seen m.digs := by
  have hn := hs.n4
  have e0 : rd_T56 m.seen (i : Int) = m.seen[i] := by
    unfold rd_T56
    rw [Int.toNat_natCast, List.getD_eq_getElem?_getD, List.getElem?_eq_getElem h]
    rfl
  simp only [tattlerref22_Great.l2]
  rw [if_pos (by omega), if_pos (by omega), if_pos (by omega)]
  simp only [e0]
  have hr := hs.seen _ (List.getElem_mem h)
  generalize m.seen[i] = x at *
  rw [wadd n x.f0.size (by omega)]
  by_cases hb : n + x.f0.size > 9000
  · rw [if_pos hb, if_pos (by omega)]
  · rw [if_neg hb, if_neg (by omega), wi2 i (by omega)]
theorem gend2 (m : M) (k n : Nat) : tattlerref22_Great.l2 (k + 1) (n : Int) (m.seen.length : Int) (m.seen.length : Int) m.kind m.fr m.dst m.id m.tg m.rg m.flag m.news m.keys m.recs m.seen m.digs = some false := by
  simp only [tattlerref22_Great.l2]
  rw [if_neg (by omega)]
def totN (m : M) : Nat := m.news.length + m.keys.length + m.recs.length + m.seen.length + m.digs.length
def totB (m : M) : Nat := (((totN m) + (m.keys.map fun x => x.size).sum) + (m.recs.map fun x => x.f0.size + x.f5.size).sum) + (m.seen.map fun x => x.f0.size).sum
def greatM (m : M) : Bool := if totN m > 5000 then true else if totB m > 9000 then true else false
theorem great_is (m : M) (hs : OkM m) (k : Nat) (hk : m.keys.length + m.recs.length + m.seen.length + 10 ≤ k) : tattlerref22_Great.f k m.kind m.fr m.dst m.id m.tg m.rg m.flag m.news m.keys m.recs m.seen m.digs = some (greatM m) := by
  have h1 := hs.n1
  have h2 := hs.n2
  have h3 := hs.n3
  have h4 := hs.n4
  have h5 := hs.n5
  obtain ⟨k, rfl⟩ : ∃ q, k = ((q + m.seen.length + 1) + m.recs.length + 1) + m.keys.length + 1 := ⟨k - (m.keys.length + m.recs.length + m.seen.length + 3), by omega⟩
  unfold tattlerref22_Great.f greatM totB
  rw [wadd m.news.length m.keys.length (by omega), wadd _ m.recs.length (by omega), wadd _ m.seen.length (by omega), wadd _ m.digs.length (by omega), show m.news.length + m.keys.length + m.recs.length + m.seen.length + m.digs.length = totN m from rfl]
  by_cases c : totN m > 5000
  · rw [if_pos (by omega), if_pos c]
  rw [if_neg (by omega), if_neg c]
  have L0 := loopG m.keys (fun x => x.size) (fun k n i => tattlerref22_Great.l0 k (n : Int) (m.keys.length : Int) (i : Int) m.kind m.fr m.dst m.id m.tg m.rg m.flag m.news m.keys m.recs m.seen m.digs) (fun k n => tattlerref22_Great.l1 k (n : Int) (m.recs.length : Int) ((0 : Nat) : Int) m.kind m.fr m.dst m.id m.tg m.rg m.flag m.news m.keys m.recs m.seen m.digs) (fun k n i h hn => gstep0 m hs k n i h hn) (fun k n => gend0 m k n) m.keys.length
  rw [show (0 : Int) = ((0 : Nat) : Int) from rfl, L0 _ _ 0 (by omega) (by omega), List.drop_zero]
  by_cases d0 : totN m + (m.keys.map fun x => x.size).sum > 9000
  · rw [if_pos d0, if_pos (by omega)]
  rw [if_neg d0]
  have L1 := loopG m.recs (fun x => x.f0.size + x.f5.size) (fun k n i => tattlerref22_Great.l1 k (n : Int) (m.recs.length : Int) (i : Int) m.kind m.fr m.dst m.id m.tg m.rg m.flag m.news m.keys m.recs m.seen m.digs) (fun k n => tattlerref22_Great.l2 k (n : Int) (m.seen.length : Int) ((0 : Nat) : Int) m.kind m.fr m.dst m.id m.tg m.rg m.flag m.news m.keys m.recs m.seen m.digs) (fun k n i h hn => gstep1 m hs k n i h hn) (fun k n => gend1 m k n) m.recs.length
  rw [L1 _ _ 0 (by omega) (by omega), List.drop_zero]
  by_cases d1 : (totN m + (m.keys.map fun x => x.size).sum) + (m.recs.map fun x => x.f0.size + x.f5.size).sum > 9000
  · rw [if_pos d1, if_pos (by omega)]
  rw [if_neg d1]
  have L2 := loopG m.seen (fun x => x.f0.size) (fun k n i => tattlerref22_Great.l2 k (n : Int) (m.seen.length : Int) (i : Int) m.kind m.fr m.dst m.id m.tg m.rg m.flag m.news m.keys m.recs m.seen m.digs) (fun _ _ => some false) (fun k n i h hn => gstep2 m hs k n i h hn) (fun k n => gend2 m k n) m.seen.length
  rw [L2 _ _ 0 (by omega) (by omega), List.drop_zero]
  by_cases d2 : ((totN m + (m.keys.map fun x => x.size).sum) + (m.recs.map fun x => x.f0.size + x.f5.size).sum) + (m.seen.map fun x => x.f0.size).sum > 9000
  · rw [if_pos d2, if_pos (by omega)]
  rw [if_neg d2]
  rw [if_neg (by omega)]
theorem sum_mem {α : Type} (g : α → Nat) (l : List α) (x : α) (h : x ∈ l) : g x ≤ (l.map g).sum := by
  induction l with
  | nil => cases h
  | cons y l ih =>
    rw [List.map_cons, List.sum_cons]
    rcases List.mem_cons.1 h with e | e
    · rw [e]; omega
    · have := ih e; omega
theorem sm_of (m : M) (hs : OkM m) (h : greatM m = false) : SmM m := by
  have hb : totN m ≤ 5000 ∧ totB m ≤ 9000 := by
    unfold greatM at h
    by_cases c : totN m > 5000
    · rw [if_pos c] at h; cases h
    rw [if_neg c] at h
    by_cases d : totB m > 9000
    · rw [if_pos d] at h; cases h
    exact ⟨by omega, by omega⟩
  obtain ⟨h1, h2⟩ := hb
  have h3 := h1
  unfold totB at h2
  unfold totN at h3
  exact ⟨hs.kind, hs.fr, hs.dst, hs.id, hs.tg, hs.rg, by omega, by omega, by omega, by omega, by omega, by omega, by omega, by omega, hs.news,
    fun x hx => by have := sum_mem (fun x => x.size) m.keys x hx; omega,
    fun x hx => ⟨by have := sum_mem (fun x : S54 => x.f0.size + x.f5.size) m.recs x hx; omega, (hs.recs x hx).2⟩,
    fun x hx => ⟨by have := sum_mem (fun x : S56 => x.f0.size) m.seen x hx; omega, (hs.seen x hx).2⟩, hs.digs⟩
end Go.Proofs.Ytdjompbhlkgmbaa.Msg
end
section
/- MsgPacks: the law's call answers true (own text; written by wip/tools/gen_msgpacks.py). -/
namespace Go.Proofs.Ytdjompbhlkgmbaa.Msg
open Go.RowKit Go.Proofs.Ytdjompbhlkgmbaa.Mem Go.Proofs.YtdjompbhlkgmbaaW.PrintWords Go.Proofs.YtdjompbhlkgmbaaW.PrintLast Go.Proofs.YtdjompbhlkgmbaaW.PrintMore Go.Proofs.Ytdjompbhlkgmbaa.PMsg
set_option linter.unusedVariables false
set_option linter.unusedSimpArgs false
theorem great_c (m : M) (A7 : Option Addr) (g7 : Nat) (A8 : Option Addr) (g8 : Nat) (A9 : Option Addr) (g9 : Nat) (A10 : Option Addr) (g10 : Nat) (A11 : Option Addr) (g11 : Nat) (W : World) (HM : HasM m A7 g7 A8 g8 A9 g9 A10 g10 A11 g11 W) (ho : OkM m) : Calls Try.prog 7 #[.agg #[.int .u8 m.kind, .int .u8 m.fr, .int .u8 m.dst, .int .u32 m.id, .int .u8 m.tg, .int .u8 m.rg, .bool m.flag, .slice A7 m.news.length g7, .slice A8 m.keys.length g8, .slice A9 m.recs.length g9, .slice A10 m.seen.length g10, .slice A11 m.digs.length g11]] W fun e w' => e = .returned (.bool (greatM m)) ∧ Below W.heap.size W w' :=
  tattlerref22_Great.calls (m.keys.length + m.recs.length + m.seen.length + 10) m.kind m.fr m.dst m.id m.tg m.rg m.flag A7 g7 m.news A8 g8 m.keys A9 g9 m.recs A10 g10 m.seen A11 g11 m.digs (greatM m) W HM.r7 HM.l7 HM.r8 HM.l8 HM.r9 HM.l9 HM.r10 HM.l10 HM.r11 HM.l11 (great_is m ho _ (Nat.le_refl _))
set_option maxRecDepth 100000 in
set_option maxHeartbeats 4000000 in
theorem packs_great (m : M) (A7 : Option Addr) (g7 : Nat) (A8 : Option Addr) (g8 : Nat) (A9 : Option Addr) (g9 : Nat) (A10 : Option Addr) (g10 : Nat) (A11 : Option Addr) (g11 : Nat) (w : World) (ho : OkM m) (hm : HasM m A7 g7 A8 g8 A9 g9 A10 g10 A11 g11 w) (hg : greatM m = true) :
    Calls Try.prog 3 #[.agg #[.int .u8 m.kind, .int .u8 m.fr, .int .u8 m.dst, .int .u32 m.id, .int .u8 m.tg, .int .u8 m.rg, .bool m.flag, .slice A7 m.news.length g7, .slice A8 m.keys.length g8, .slice A9 m.recs.length g9, .slice A10 m.seen.length g10, .slice A11 m.digs.length g11]] w fun e w' => e = .returned (.bool true) ∧ Below w.heap.size w w' := by
  have hgc := fun (W : World) (h : Below w.heap.size w W) => great_c m A7 g7 A8 g8 A9 g9 A10 g10 A11 g11 W (hm.below h) ho
  rw [hg] at hgc
  have GC := Lib.hid hgc
  have FX := Lib.hid fixed_any
  clear hgc hg ho hm
  go_enter Try.func3, Try.ntmps3
  go_upto_region 1 with (fail)
  have AZ := Lib.hid (blk_new w (.cells #[.int .u8 m.kind, .int .u8 m.fr, .int .u8 m.dst, .int .u32 m.id, .int .u8 m.tg, .int .u8 m.rg, .bool m.flag, .slice A7 m.news.length g7, .slice A8 m.keys.length g8, .slice A9 m.recs.length g9, .slice A10 m.seen.length g10, .slice A11 m.digs.length g11] 29))
  have HB := Lib.hid (below_alloc (Below.refl w.heap.size w) (.cells #[.int .u8 m.kind, .int .u8 m.fr, .int .u8 m.dst, .int .u32 m.id, .int .u8 m.tg, .int .u8 m.rg, .bool m.flag, .slice A7 m.news.length g7, .slice A8 m.keys.length g8, .slice A9 m.recs.length g9, .slice A10 m.seen.length g10, .slice A11 m.digs.length g11] 29))
  generalize w.alloc (.cells #[.int .u8 m.kind, .int .u8 m.fr, .int .u8 m.dst, .int .u32 m.id, .int .u8 m.tg, .int .u8 m.rg, .bool m.flag, .slice A7 m.news.length g7, .slice A8 m.keys.length g8, .slice A9 m.recs.length g9, .slice A10 m.seen.length g10, .slice A11 m.digs.length g11] 29) = w1 at *
  have ez0 : w1.cell? ⟨w.heap.size, 0, none⟩ = some (.int .u8 m.kind) := (blk_cell AZ.out 0).trans rfl
  have ez1 : w1.cell? ⟨w.heap.size, 1, none⟩ = some (.int .u8 m.fr) := (blk_cell AZ.out 1).trans rfl
  have ez2 : w1.cell? ⟨w.heap.size, 2, none⟩ = some (.int .u8 m.dst) := (blk_cell AZ.out 2).trans rfl
  have ez3 : w1.cell? ⟨w.heap.size, 3, none⟩ = some (.int .u32 m.id) := (blk_cell AZ.out 3).trans rfl
  have ez4 : w1.cell? ⟨w.heap.size, 4, none⟩ = some (.int .u8 m.tg) := (blk_cell AZ.out 4).trans rfl
  have ez5 : w1.cell? ⟨w.heap.size, 5, none⟩ = some (.int .u8 m.rg) := (blk_cell AZ.out 5).trans rfl
  have ez6 : w1.cell? ⟨w.heap.size, 6, none⟩ = some (.bool m.flag) := (blk_cell AZ.out 6).trans rfl
  have ez7 : w1.cell? ⟨w.heap.size, 7, none⟩ = some (.slice A7 m.news.length g7) := (blk_cell AZ.out 7).trans rfl
  have ez8 : w1.cell? ⟨w.heap.size, 8, none⟩ = some (.slice A8 m.keys.length g8) := (blk_cell AZ.out 8).trans rfl
  have ez9 : w1.cell? ⟨w.heap.size, 9, none⟩ = some (.slice A9 m.recs.length g9) := (blk_cell AZ.out 9).trans rfl
  have ez10 : w1.cell? ⟨w.heap.size, 10, none⟩ = some (.slice A10 m.seen.length g10) := (blk_cell AZ.out 10).trans rfl
  have ez11 : w1.cell? ⟨w.heap.size, 11, none⟩ = some (.slice A11 m.digs.length g11) := (blk_cell AZ.out 11).trans rfl
  go_wp2_with (first
    | (go_at_call 7; (with_reducible refine (GC.out _ HB.out).mono ?_); rintro e w2 ⟨rfl, hb2⟩; have HB2 := Lib.hid (below_step HB.out hb2); have AZ2 := Lib.hid (blk_below AZ.out hb2); clear hb2 HB AZ)
    | (go_at_call 8; (with_reducible refine (FX.out _).mono ?_); rintro e w3 ⟨rfl, hb3⟩; have HB3 := Lib.hid (below_step HB2.out hb3); clear hb3 HB2))
  go_ret
  exact ⟨rfl, HB3.out⟩
set_option maxRecDepth 100000 in
set_option maxHeartbeats 4000000 in
theorem packs_small (m : M) (A7 : Option Addr) (g7 : Nat) (A8 : Option Addr) (g8 : Nat) (A9 : Option Addr) (g9 : Nat) (A10 : Option Addr) (g10 : Nat) (A11 : Option Addr) (g11 : Nat) (w : World) (ho : OkM m) (hm : HasM m A7 g7 A8 g8 A9 g9 A10 g10 A11 g11 w) (hg : greatM m = false) :
    Calls Try.prog 3 #[.agg #[.int .u8 m.kind, .int .u8 m.fr, .int .u8 m.dst, .int .u32 m.id, .int .u8 m.tg, .int .u8 m.rg, .bool m.flag, .slice A7 m.news.length g7, .slice A8 m.keys.length g8, .slice A9 m.recs.length g9, .slice A10 m.seen.length g10, .slice A11 m.digs.length g11]] w fun e w' => e = .returned (.bool true) ∧ Below w.heap.size w w' := by
  have hgc := fun (W : World) (h : Below w.heap.size w W) => great_c m A7 g7 A8 g8 A9 g9 A10 g10 A11 g11 W (hm.below h) ho
  rw [hg] at hgc
  have GC := Lib.hid hgc
  have FX := Lib.hid fixed_any
  have hs := sm_of m ho hg
  have PK := Lib.hid (fun (b c tb : Nat) (W : World) (h : Below w.heap.size w W) (hc : MCod W b c tb) => pack_any m A7 g7 A8 g8 A9 g9 A10 g10 A11 g11 b c tb W (hm.below h) hs hc)
  have RK := Lib.hid (fun (W : World) (h : Below w.heap.size w W) => refPack_c m A7 g7 A8 g8 A9 g9 A10 g10 A11 g11 W (hm.below h) hs)
  clear hs
  generalize packS m = S at *
  generalize packE m = E at *
  have q2 : (E == E) = true := beq_self_eq_true E
  clear hgc hg ho hm
  go_enter Try.func3, Try.ntmps3
  go_upto_region 1 with (fail)
  have AZ := Lib.hid (blk_new w (.cells #[.int .u8 m.kind, .int .u8 m.fr, .int .u8 m.dst, .int .u32 m.id, .int .u8 m.tg, .int .u8 m.rg, .bool m.flag, .slice A7 m.news.length g7, .slice A8 m.keys.length g8, .slice A9 m.recs.length g9, .slice A10 m.seen.length g10, .slice A11 m.digs.length g11] 29))
  have HB := Lib.hid (below_alloc (Below.refl w.heap.size w) (.cells #[.int .u8 m.kind, .int .u8 m.fr, .int .u8 m.dst, .int .u32 m.id, .int .u8 m.tg, .int .u8 m.rg, .bool m.flag, .slice A7 m.news.length g7, .slice A8 m.keys.length g8, .slice A9 m.recs.length g9, .slice A10 m.seen.length g10, .slice A11 m.digs.length g11] 29))
  generalize w.alloc (.cells #[.int .u8 m.kind, .int .u8 m.fr, .int .u8 m.dst, .int .u32 m.id, .int .u8 m.tg, .int .u8 m.rg, .bool m.flag, .slice A7 m.news.length g7, .slice A8 m.keys.length g8, .slice A9 m.recs.length g9, .slice A10 m.seen.length g10, .slice A11 m.digs.length g11] 29) = w1 at *
  have ez0 : w1.cell? ⟨w.heap.size, 0, none⟩ = some (.int .u8 m.kind) := (blk_cell AZ.out 0).trans rfl
  have ez1 : w1.cell? ⟨w.heap.size, 1, none⟩ = some (.int .u8 m.fr) := (blk_cell AZ.out 1).trans rfl
  have ez2 : w1.cell? ⟨w.heap.size, 2, none⟩ = some (.int .u8 m.dst) := (blk_cell AZ.out 2).trans rfl
  have ez3 : w1.cell? ⟨w.heap.size, 3, none⟩ = some (.int .u32 m.id) := (blk_cell AZ.out 3).trans rfl
  have ez4 : w1.cell? ⟨w.heap.size, 4, none⟩ = some (.int .u8 m.tg) := (blk_cell AZ.out 4).trans rfl
  have ez5 : w1.cell? ⟨w.heap.size, 5, none⟩ = some (.int .u8 m.rg) := (blk_cell AZ.out 5).trans rfl
  have ez6 : w1.cell? ⟨w.heap.size, 6, none⟩ = some (.bool m.flag) := (blk_cell AZ.out 6).trans rfl
  have ez7 : w1.cell? ⟨w.heap.size, 7, none⟩ = some (.slice A7 m.news.length g7) := (blk_cell AZ.out 7).trans rfl
  have ez8 : w1.cell? ⟨w.heap.size, 8, none⟩ = some (.slice A8 m.keys.length g8) := (blk_cell AZ.out 8).trans rfl
  have ez9 : w1.cell? ⟨w.heap.size, 9, none⟩ = some (.slice A9 m.recs.length g9) := (blk_cell AZ.out 9).trans rfl
  have ez10 : w1.cell? ⟨w.heap.size, 10, none⟩ = some (.slice A10 m.seen.length g10) := (blk_cell AZ.out 10).trans rfl
  have ez11 : w1.cell? ⟨w.heap.size, 11, none⟩ = some (.slice A11 m.digs.length g11) := (blk_cell AZ.out 11).trans rfl
  go_upto_region 3 with (go_at_call 7; (with_reducible refine (GC.out _ HB.out).mono ?_); rintro e w2 ⟨rfl, hb2⟩; have HB2 := Lib.hid (below_step HB.out hb2); have AZ2 := Lib.hid (blk_below AZ.out hb2); clear hb2 HB AZ)
  refine start_ (n := 8) (S := fun w' => w'.cell? ⟨w.heap.size, 0, none⟩ = some (.int .u8 m.kind) ∧ w'.cell? ⟨w.heap.size, 1, none⟩ = some (.int .u8 m.fr) ∧ w'.cell? ⟨w.heap.size, 2, none⟩ = some (.int .u8 m.dst) ∧ w'.cell? ⟨w.heap.size, 3, none⟩ = some (.int .u32 m.id) ∧ w'.cell? ⟨w.heap.size, 4, none⟩ = some (.int .u8 m.tg) ∧ w'.cell? ⟨w.heap.size, 5, none⟩ = some (.int .u8 m.rg) ∧ w'.cell? ⟨w.heap.size, 6, none⟩ = some (.bool m.flag) ∧ w'.cell? ⟨w.heap.size, 7, none⟩ = some (.slice A7 m.news.length g7) ∧ w'.cell? ⟨w.heap.size, 8, none⟩ = some (.slice A8 m.keys.length g8) ∧ w'.cell? ⟨w.heap.size, 9, none⟩ = some (.slice A9 m.recs.length g9) ∧ w'.cell? ⟨w.heap.size, 10, none⟩ = some (.slice A10 m.seen.length g10) ∧ w'.cell? ⟨w.heap.size, 11, none⟩ = some (.slice A11 m.digs.length g11)) (ds := []) #[false, false, false, false, false, false, false, false] (by kernel_rfl) rfl rfl ⟨(blk_cell AZ2.out 0).trans rfl, (blk_cell AZ2.out 1).trans rfl, (blk_cell AZ2.out 2).trans rfl, (blk_cell AZ2.out 3).trans rfl, (blk_cell AZ2.out 4).trans rfl, (blk_cell AZ2.out 5).trans rfl, (blk_cell AZ2.out 6).trans rfl, (blk_cell AZ2.out 7).trans rfl, (blk_cell AZ2.out 8).trans rfl, (blk_cell AZ2.out 9).trans rfl, (blk_cell AZ2.out 10).trans rfl, (blk_cell AZ2.out 11).trans rfl⟩ (fun hHeld => ?_)
  have AZ3 := Lib.hid (blk_drew AZ2.out)
  have HB3 := Lib.hid (below_drew HB2.out)
  clear AZ2 HB2
  generalize w2.drew = w3 at AZ3 HB3 hHeld ⊢
  refine take_ (i := 1) (N := some 12) (v := ?_) (a' := ?_) #[false, true, false, false, false, false, false, false] rfl rfl (by kernel_rfl) (fun _ _ _ h => h) (Or.inl ⟨by rfl, ?_⟩) hHeld ?_ ?_
  rotate_left
  · rintro w' ⟨s0, s1, s2, s3, s4, s5, s6, s7, s8, s9, s10, s11⟩
    go_simp
    with_reducible rfl
  rotate_left
  · simp only [Act.put, List.setIfInBounds_toArray, List.set_cons_zero, List.set_cons_succ, i64_w, i32_w]
    rfl
  refine one_ (i := 0) (N := some 11) #[true, true, false, false, false, false, false, false] rfl rfl (by kernel_rfl) (by decide) (fun K hK => ?_)
  refine goes_ Try.func9 (by kernel_rfl) rfl #[] (by rfl) rfl rfl (by simp only [List.map_toArray, List.map_nil]) ?_
  with_reducible refine (mnew _).mono ?_
  rintro e w10 ⟨b, c, tb, rfl, hc, g1, g2, g3, g4, g5, g6, hb⟩
  refine ⟨_, rfl, ?_⟩
  have HC := Lib.hid hc
  have AZ5 := Lib.hid (blk_below AZ3.out hb)
  have HB5 := Lib.hid (below_step HB3.out hb)
  have HT := Lib.hid (show w.heap.size < tb from Nat.lt_of_lt_of_le (blk_lt AZ3.out) g3)
  clear hc hb AZ3 HB3
  refine hK.out _ _ ⟨(blk_cell AZ5.out 0).trans rfl, (blk_cell AZ5.out 1).trans rfl, (blk_cell AZ5.out 2).trans rfl, (blk_cell AZ5.out 3).trans rfl, (blk_cell AZ5.out 4).trans rfl, (blk_cell AZ5.out 5).trans rfl, (blk_cell AZ5.out 6).trans rfl, (blk_cell AZ5.out 7).trans rfl, (blk_cell AZ5.out 8).trans rfl, (blk_cell AZ5.out 9).trans rfl, (blk_cell AZ5.out 10).trans rfl, (blk_cell AZ5.out 11).trans rfl⟩ (fun hHeld => ?_)
  clear hK K
  refine norm_ (a' := ?_) ?_ ?_
  rotate_left
  · show Act.put _ (some 11) _ = _
    simp only [Act.put, List.setIfInBounds_toArray, List.set_cons_zero, List.set_cons_succ, i64_w, i32_w]
    rfl
  refine one_ (i := 2) (N := some 13) #[true, true, true, false, false, false, false, false] rfl rfl (by kernel_rfl) (by decide) (fun K hK => ?_)
  refine goes_ Try.func10 (by kernel_rfl) rfl #[.pointer (some ⟨b, 0, none⟩), .agg #[.int .u8 m.kind, .int .u8 m.fr, .int .u8 m.dst, .int .u32 m.id, .int .u8 m.tg, .int .u8 m.rg, .bool m.flag, .slice A7 m.news.length g7, .slice A8 m.keys.length g8, .slice A9 m.recs.length g9, .slice A10 m.seen.length g10, .slice A11 m.digs.length g11]] (by rfl) rfl rfl (by simp only [List.map_toArray, List.map_cons, List.map_nil]; rfl) ?_
  with_reducible refine (PK.out b c tb _ HB5.out HC.out).mono ?_
  rintro e w11 ⟨rfl, ht, hk⟩
  refine ⟨_, rfl, ?_⟩
  have AZ6 := Lib.hid ((hk.block w.heap.size (blk_lt AZ5.out) (by have := HT.out; omega)).trans AZ5.out)
  have HB6 := Lib.hid (below_chg HB5.out hk (fun i e => by have := HT.out; omega))
  clear ht hk AZ5 HB5 HC
  refine hK.out _ _ ⟨(blk_cell AZ6.out 0).trans rfl, (blk_cell AZ6.out 1).trans rfl, (blk_cell AZ6.out 2).trans rfl, (blk_cell AZ6.out 3).trans rfl, (blk_cell AZ6.out 4).trans rfl, (blk_cell AZ6.out 5).trans rfl, (blk_cell AZ6.out 6).trans rfl, (blk_cell AZ6.out 7).trans rfl, (blk_cell AZ6.out 8).trans rfl, (blk_cell AZ6.out 9).trans rfl, (blk_cell AZ6.out 10).trans rfl, (blk_cell AZ6.out 11).trans rfl⟩ (fun hHeld => ?_)
  clear hK K
  refine norm_ (a' := ?_) ?_ ?_
  rotate_left
  · show Act.put _ (some 13) _ = _
    simp only [Act.put, List.setIfInBounds_toArray, List.set_cons_zero, List.set_cons_succ, i64_w, i32_w]
    rfl
  refine pure_ (i := 3) (N := some 10) (v := ?_) (a' := ?_) #[true, true, true, true, false, false, false, false] rfl rfl (by kernel_rfl) (fun _ _ _ h => h) (Or.inl ⟨by rfl, ?_⟩) ?_ ?_
  rotate_left
  · intro w'
    go_simp
    with_reducible rfl
  rotate_left
  · simp only [Act.put, List.setIfInBounds_toArray, List.set_cons_zero, List.set_cons_succ, i64_w, i32_w]
    rfl
  refine pure_ (i := 4) (N := some 14) (v := ?_) (a' := ?_) #[true, true, true, true, true, false, false, false] rfl rfl (by kernel_rfl) (fun _ _ _ h => h) (Or.inl ⟨by rfl, ?_⟩) ?_ ?_
  rotate_left
  · intro w'
    go_simp
    with_reducible rfl
  rotate_left
  · simp only [Act.put, List.setIfInBounds_toArray, List.set_cons_zero, List.set_cons_succ, i64_w, i32_w]
    rfl
  refine pure_ (i := 5) (N := some 15) (v := ?_) (a' := ?_) #[true, true, true, true, true, true, false, false] rfl rfl (by kernel_rfl) (fun _ _ _ h => h) (Or.inl ⟨by rfl, ?_⟩) ?_ ?_
  rotate_left
  · intro w'
    go_simp
    with_reducible rfl
  rotate_left
  · simp only [Act.put, List.setIfInBounds_toArray, List.set_cons_zero, List.set_cons_succ, i64_w, i32_w]
    rfl
  refine pure_ (i := 6) (N := some 3) (v := ?_) (a' := ?_) #[true, true, true, true, true, true, true, false] rfl rfl (by kernel_rfl) (fun _ _ _ h => h) (Or.inl ⟨by rfl, ?_⟩) ?_ ?_
  rotate_left
  · intro w'
    go_simp
    with_reducible rfl
  rotate_left
  · simp only [Act.put, List.setIfInBounds_toArray, List.set_cons_zero, List.set_cons_succ, i64_w, i32_w]
    rfl
  refine pure_ (i := 7) (N := some 4) (v := ?_) (a' := ?_) #[true, true, true, true, true, true, true, true] rfl rfl (by kernel_rfl) (fun _ _ _ h => h) (Or.inl ⟨by rfl, ?_⟩) ?_ ?_
  rotate_left
  · intro w'
    go_simp
    with_reducible rfl
  rotate_left
  · simp only [Act.put, List.setIfInBounds_toArray, List.set_cons_zero, List.set_cons_succ, i64_w, i32_w]
    rfl
  refine done_ (by kernel_rfl) ?_
  have ey0 : w11.cell? ⟨w.heap.size, 0, none⟩ = some (.int .u8 m.kind) := (blk_cell AZ6.out 0).trans rfl
  have ey1 : w11.cell? ⟨w.heap.size, 1, none⟩ = some (.int .u8 m.fr) := (blk_cell AZ6.out 1).trans rfl
  have ey2 : w11.cell? ⟨w.heap.size, 2, none⟩ = some (.int .u8 m.dst) := (blk_cell AZ6.out 2).trans rfl
  have ey3 : w11.cell? ⟨w.heap.size, 3, none⟩ = some (.int .u32 m.id) := (blk_cell AZ6.out 3).trans rfl
  have ey4 : w11.cell? ⟨w.heap.size, 4, none⟩ = some (.int .u8 m.tg) := (blk_cell AZ6.out 4).trans rfl
  have ey5 : w11.cell? ⟨w.heap.size, 5, none⟩ = some (.int .u8 m.rg) := (blk_cell AZ6.out 5).trans rfl
  have ey6 : w11.cell? ⟨w.heap.size, 6, none⟩ = some (.bool m.flag) := (blk_cell AZ6.out 6).trans rfl
  have ey7 : w11.cell? ⟨w.heap.size, 7, none⟩ = some (.slice A7 m.news.length g7) := (blk_cell AZ6.out 7).trans rfl
  have ey8 : w11.cell? ⟨w.heap.size, 8, none⟩ = some (.slice A8 m.keys.length g8) := (blk_cell AZ6.out 8).trans rfl
  have ey9 : w11.cell? ⟨w.heap.size, 9, none⟩ = some (.slice A9 m.recs.length g9) := (blk_cell AZ6.out 9).trans rfl
  have ey10 : w11.cell? ⟨w.heap.size, 10, none⟩ = some (.slice A10 m.seen.length g10) := (blk_cell AZ6.out 10).trans rfl
  have ey11 : w11.cell? ⟨w.heap.size, 11, none⟩ = some (.slice A11 m.digs.length g11) := (blk_cell AZ6.out 11).trans rfl
  go_wp2_with (first
    | (go_at_call 11; (with_reducible refine (RK.out _ HB6.out).mono ?_); rintro e w12 ⟨rfl, hb⟩; have HB7 := Lib.hid (below_step HB6.out hb); clear hb HB6)
    | (go_at_call 8; (with_reducible refine (FX.out _).mono ?_); rintro e w13 ⟨rfl, hb⟩; have HB8 := Lib.hid (below_step HB7.out hb); clear hb HB7))
  go_ret
  exact ⟨rfl, HB8.out⟩
theorem packs_walk (m : M) (A7 : Option Addr) (g7 : Nat) (A8 : Option Addr) (g8 : Nat) (A9 : Option Addr) (g9 : Nat) (A10 : Option Addr) (g10 : Nat) (A11 : Option Addr) (g11 : Nat) (w : World) (ho : OkM m) (hm : HasM m A7 g7 A8 g8 A9 g9 A10 g10 A11 g11 w) :
    Calls Try.prog 3 #[.agg #[.int .u8 m.kind, .int .u8 m.fr, .int .u8 m.dst, .int .u32 m.id, .int .u8 m.tg, .int .u8 m.rg, .bool m.flag, .slice A7 m.news.length g7, .slice A8 m.keys.length g8, .slice A9 m.recs.length g9, .slice A10 m.seen.length g10, .slice A11 m.digs.length g11]] w fun e w' => e = .returned (.bool true) ∧ Below w.heap.size w w' := by
  cases hg : greatM m
  · exact packs_small m A7 g7 A8 g8 A9 g9 A10 g10 A11 g11 w ho hm hg
  · exact packs_great m A7 g7 A8 g8 A9 g9 A10 g10 A11 g11 w ho hm hg
end Go.Proofs.Ytdjompbhlkgmbaa.Msg
end
section
/- api.Msg, and its lists, opened (own text; written by wip/tools/gen_msgopen.py). -/
namespace Go.Proofs.Ytdjompbhlkgmbaa.Opener
open Go.RowKit Go.ChangeShapes Go.WideShapes Go.Deep
open Go.Proofs.YtdjompbhlkgmbaaW.PrintWords (Kd)
set_option linter.unusedVariables false
set_option linter.unusedSimpArgs false
section
variable {H : Type} {enc : TypeId × Value → H} {P : Program} {w : World} {base : Nat} {spare : Nat → Bool} {held : Bool}
/-- A datum in the machine's reach. -/
def Sz (P : Program) (t : TypeId) (d : DataW H) : Prop := ∀ n, n ∈ DataW.weights P t d → n ≤ 140737488351232
theorem fields_sz {t : TypeId} {fs : Array Field} {fuel : Nat} {cs : List Value} {x : DataW H × List MemPlace} (ht : P.underlying t = some (.struct fs)) (h : DataW.trod enc P w base spare held fuel t cs = some x) (hw : Sz P t x.1) :
    cs.length = P.cellsOf t ∧ ∃ n, ∀ (i : Nat) (f : Field), fs[i]? = some f → ∃ y, DataW.trod enc P w base spare held n f.type ((cs.drop f.offset).take (P.cellsOf f.type)) = some y ∧ Sz P f.type y.1 := by
  obtain ⟨xs, n, _, hx, hl, hlen, hf⟩ := DataW.trod_struct ht h
  refine ⟨hl, n, fun i f hi => ?_⟩
  have hil : i < xs.length := by
    rw [hlen]
    rcases Nat.lt_or_ge i fs.size with g | g
    · exact g
    · rw [Array.getElem?_eq_none g] at hi; cases hi
  refine ⟨xs[i], by rw [hf i f hi, List.getElem?_eq_getElem hil], fun m hm => hw m ?_⟩
  rw [hx]
  simp only [DataW.weights, ht]
  exact DataW.weights_mem_each (j := i) (t := f.type) (d := xs[i].1) (by rw [List.getElem?_map, Array.getElem?_toList, hi]; rfl) (by rw [List.getElem?_map, List.getElem?_eq_getElem hil]; rfl) m hm
theorem str_sz {t : TypeId} {fuel : Nat} {cs : List Value} {x : DataW H × List MemPlace} (ht : P.underlying t = some .string) (h : DataW.trod enc P w base spare held fuel t cs = some x) (hw : Sz P t x.1) : ∃ s : ByteArray, cs = [.string s] ∧ s.size ≤ 140737488351232 := by
  obtain ⟨s, e, ex, _⟩ := DataW.trod_string ht h
  refine ⟨s, e, ?_⟩
  have := hw s.data.toList.length (by rw [ex]; simp [DataW.weights])
  rw [Array.length_toList] at this
  exact this
theorem mem_all {e : TypeId} {d : DataW H} {n : Nat} : ∀ l : List (DataW H), d ∈ l → n ∈ DataW.weights P e d → n ∈ DataW.weightsAll P e l
  | [], h, _ => by cases h
  | y :: l, h, hn => by
    simp only [DataW.weightsAll, List.mem_append]
    rcases List.mem_cons.1 h with e1 | e1
    · rw [e1] at hn; exact .inl hn
    · exact .inr (mem_all l e1 hn)
theorem rows_sz {t e : TypeId} {C : Nat} {R : List Value → Prop} {fuel : Nat} {cs : List Value} {x : DataW H × List MemPlace} (ht : P.underlying t = some (.slice e)) (hC : P.cellsOf e = C) (hpos : 0 < C) (hby : 1 ≤ P.bytesOf e)
    (hR : ∀ n cs' y, DataW.trod enc P w base spare held n e cs' = some y → Sz P e y.1 → R cs') (h : DataW.trod enc P w base spare held fuel t cs = some x) (hw : Sz P t x.1) :
    ∃ (a : Option Addr) (len cap : Nat), cs = [.slice a len cap] ∧ len ≤ 140737488351232 ∧ len ≤ cap ∧ cap ≤ maxLen ∧ (0 < len → ∃ b off, a = some ⟨b, off, none⟩ ∧ b < w.heap.size ∧
      ∀ i, i < len → ∃ cs', R cs' ∧ cs'.length = C ∧ ∀ j, j < C → w.cell? ⟨b, off + (i * C + j), none⟩ = cs'[j]?) := by
  rcases open_slice ht h with ⟨h0, _⟩ | ⟨a, len, cap, m, n, D, Pl, hcs, hb, hl, hm, hmm, hx, hi⟩
  · exact ⟨none, 0, 0, h0, by omega, Nat.le_refl _, by unfold maxLen; omega, fun h => absurd h (by omega)⟩
  · have h1 : (((List.range len).map D).length + ((List.range (m - len)).map fun j => D (len + j)).length) * P.bytesOf e ≤ 140737488351232 := by
      refine hw _ ?_
      rw [hx]
      simp only [DataW.weights, ht]
      exact List.mem_cons_self ..
    have hlen : len ≤ 140737488351232 := by
      rw [List.length_map, List.length_range] at h1
      have h2 : len * 1 ≤ (len + ((List.range (m - len)).map fun j => D (len + j)).length) * P.bytesOf e := Nat.mul_le_mul (by omega) hby
      omega
    refine ⟨some a, len, cap, hcs, hlen, hl, hm, fun hp => ?_⟩
    have hml : len ≤ m := by rw [hmm]; split <;> omega
    rw [hC] at hi
    obtain ⟨b, off, spot⟩ := a
    obtain ⟨cs0, hc0, ht0⟩ := hi 0 (by omega)
    obtain ⟨_, hl0, hat0⟩ := World.cells?_some hc0
    have h00 := hat0 0 hpos
    rw [List.getElem?_eq_getElem (by omega)] at h00
    have hspot : spot = none := by simpa [Addr.add] using World.cell?_spot h00
    subst hspot
    refine ⟨b, off, rfl, ?_, fun i hil => ?_⟩
    · have := World.block_lt_of_cell? w _ h00
      simpa [Addr.add] using this
    · obtain ⟨cs', hc, ht'⟩ := hi i (by omega)
      obtain ⟨_, hcl, hat⟩ := World.cells?_some hc
      refine ⟨cs', hR _ _ _ ht' (fun k hk => hw k ?_), hcl, fun j hj => ?_⟩
      · rw [hx]
        simp only [DataW.weights, ht]
        refine List.mem_cons_of_mem _ (List.mem_append_left _ (mem_all _ ?_ hk))
        exact List.mem_map.2 ⟨i, List.mem_range.2 hil, rfl⟩
      have := hat j hj
      rw [Go.Deep.add_add, Go.WideShapes.add_plain] at this
      exact this
end
theorem cells_u64 : Try.prog.cellsOf 50 = 1 := by kernel_rfl
theorem cells_u32 : Try.prog.cellsOf 22 = 1 := by kernel_rfl
theorem cells_u8 : Try.prog.cellsOf 5 = 1 := by kernel_rfl
theorem cells_string : Try.prog.cellsOf 9 = 1 := by kernel_rfl
theorem cells_bool : Try.prog.cellsOf 4 = 1 := by kernel_rfl
theorem cells_Stamp : Try.prog.cellsOf 52 = 3 := by kernel_rfl
theorem cells_Rec : Try.prog.cellsOf 54 = 8 := by kernel_rfl
theorem cells_Member : Try.prog.cellsOf 70 = 2 := by kernel_rfl
theorem cells_News : Try.prog.cellsOf 72 = 3 := by kernel_rfl
theorem cells_Seen : Try.prog.cellsOf 56 = 5 := by kernel_rfl
theorem cells_s7 : Try.prog.cellsOf 23 = 1 := by kernel_rfl
theorem cells_s8 : Try.prog.cellsOf 24 = 1 := by kernel_rfl
theorem cells_s9 : Try.prog.cellsOf 25 = 1 := by kernel_rfl
theorem cells_s10 : Try.prog.cellsOf 26 = 1 := by kernel_rfl
theorem cells_s11 : Try.prog.cellsOf 27 = 1 := by kernel_rfl
theorem cells_Msg : Try.prog.cellsOf 29 = 12 := by kernel_rfl
section
variable {H : Type} {enc : TypeId × Value → H} {w : World} {base : Nat} {spare : Nat → Bool} {held : Bool}
/-- The cells of a Stamp. -/
def IsStamp (cs : List Value) : Prop := ∃ (p : Int) (l : Int) (n : Int), cs = [.int .u64 p, .int .u32 l, .int .u8 n] ∧ (0 ≤ p ∧ p ≤ 18446744073709551615) ∧ (0 ≤ l ∧ l ≤ 4294967295) ∧ (0 ≤ n ∧ n ≤ 255)
set_option maxRecDepth 100000 in
theorem Stamp_cells {fuel : Nat} {cs : List Value} {x : DataW H × List MemPlace} (h : DataW.trod enc Try.prog w base spare held fuel 52 cs = some x) (hw : Sz Try.prog 52 x.1) : IsStamp cs := by
  obtain ⟨hl, n, hf⟩ := fields_sz Try.underlying52 h hw
  rw [cells_Stamp] at hl
  match cs, hl with
  | [c0, c1, c2], _ =>
    obtain ⟨y0, h0, s0⟩ := hf 0 _ rfl
    replace h0 : DataW.trod enc Try.prog w base spare held n 50 (List.take (Try.prog.cellsOf 50) (List.drop 0 [c0, c1, c2])) = some y0 := h0
    rw [cells_u64] at h0
    replace h0 : DataW.trod enc Try.prog w base spare held n 50 [c0] = some y0 := h0
    obtain ⟨a0, e0, _, w0⟩ := DataW.trod_int Try.underlying50 h0
    obtain ⟨y1, h1, s1⟩ := hf 1 _ rfl
    replace h1 : DataW.trod enc Try.prog w base spare held n 22 (List.take (Try.prog.cellsOf 22) (List.drop 1 [c0, c1, c2])) = some y1 := h1
    rw [cells_u32] at h1
    replace h1 : DataW.trod enc Try.prog w base spare held n 22 [c1] = some y1 := h1
    obtain ⟨a1, e1, _, w1⟩ := DataW.trod_int Try.underlying22 h1
    obtain ⟨y2, h2, s2⟩ := hf 2 _ rfl
    replace h2 : DataW.trod enc Try.prog w base spare held n 5 (List.take (Try.prog.cellsOf 5) (List.drop 2 [c0, c1, c2])) = some y2 := h2
    rw [cells_u8] at h2
    replace h2 : DataW.trod enc Try.prog w base spare held n 5 [c2] = some y2 := h2
    obtain ⟨a2, e2, _, w2⟩ := DataW.trod_int Try.underlying5 h2
    cases e0
    cases e1
    cases e2
    exact ⟨a0, a1, a2, rfl, bounds_u64 w0, bounds_u32 w1, bounds_u8 w2⟩
/-- The cells of a Rec. -/
def IsRec (cs : List Value) : Prop := ∃ (key : ByteArray) (s_p : Int) (s_l : Int) (s_n : Int) (kind : Int) (flags : Int) (expiry : Int) (body : ByteArray), cs = [.string key, .int .u64 s_p, .int .u32 s_l, .int .u8 s_n, .int .u8 kind, .int .u32 flags, .int .u64 expiry, .string body] ∧ (key.size ≤ 140737488351232) ∧ (0 ≤ s_p ∧ s_p ≤ 18446744073709551615) ∧ (0 ≤ s_l ∧ s_l ≤ 4294967295) ∧ (0 ≤ s_n ∧ s_n ≤ 255) ∧ (0 ≤ kind ∧ kind ≤ 255) ∧ (0 ≤ flags ∧ flags ≤ 4294967295) ∧ (0 ≤ expiry ∧ expiry ≤ 18446744073709551615) ∧ (body.size ≤ 140737488351232)
set_option maxRecDepth 100000 in
theorem Rec_cells {fuel : Nat} {cs : List Value} {x : DataW H × List MemPlace} (h : DataW.trod enc Try.prog w base spare held fuel 54 cs = some x) (hw : Sz Try.prog 54 x.1) : IsRec cs := by
  obtain ⟨hl, n, hf⟩ := fields_sz Try.underlying54 h hw
  rw [cells_Rec] at hl
  match cs, hl with
  | [c0, c1, c2, c3, c4, c5, c6, c7], _ =>
    obtain ⟨y0, h0, s0⟩ := hf 0 _ rfl
    replace h0 : DataW.trod enc Try.prog w base spare held n 9 (List.take (Try.prog.cellsOf 9) (List.drop 0 [c0, c1, c2, c3, c4, c5, c6, c7])) = some y0 := h0
    rw [cells_string] at h0
    replace h0 : DataW.trod enc Try.prog w base spare held n 9 [c0] = some y0 := h0
    obtain ⟨a0, e0, w0⟩ := str_sz Try.underlying9 h0 s0
    obtain ⟨y1, h1, s1⟩ := hf 1 _ rfl
    replace h1 : DataW.trod enc Try.prog w base spare held n 52 (List.take (Try.prog.cellsOf 52) (List.drop 1 [c0, c1, c2, c3, c4, c5, c6, c7])) = some y1 := h1
    rw [cells_Stamp] at h1
    replace h1 : DataW.trod enc Try.prog w base spare held n 52 [c1, c2, c3] = some y1 := h1
    obtain ⟨a1_0, a1_1, a1_2, e1, b1_0, b1_1, b1_2⟩ := Stamp_cells h1 s1
    obtain ⟨y2, h2, s2⟩ := hf 2 _ rfl
    replace h2 : DataW.trod enc Try.prog w base spare held n 5 (List.take (Try.prog.cellsOf 5) (List.drop 4 [c0, c1, c2, c3, c4, c5, c6, c7])) = some y2 := h2
    rw [cells_u8] at h2
    replace h2 : DataW.trod enc Try.prog w base spare held n 5 [c4] = some y2 := h2
    obtain ⟨a2, e2, _, w2⟩ := DataW.trod_int Try.underlying5 h2
    obtain ⟨y3, h3, s3⟩ := hf 3 _ rfl
    replace h3 : DataW.trod enc Try.prog w base spare held n 22 (List.take (Try.prog.cellsOf 22) (List.drop 5 [c0, c1, c2, c3, c4, c5, c6, c7])) = some y3 := h3
    rw [cells_u32] at h3
    replace h3 : DataW.trod enc Try.prog w base spare held n 22 [c5] = some y3 := h3
    obtain ⟨a3, e3, _, w3⟩ := DataW.trod_int Try.underlying22 h3
    obtain ⟨y4, h4, s4⟩ := hf 4 _ rfl
    replace h4 : DataW.trod enc Try.prog w base spare held n 50 (List.take (Try.prog.cellsOf 50) (List.drop 6 [c0, c1, c2, c3, c4, c5, c6, c7])) = some y4 := h4
    rw [cells_u64] at h4
    replace h4 : DataW.trod enc Try.prog w base spare held n 50 [c6] = some y4 := h4
    obtain ⟨a4, e4, _, w4⟩ := DataW.trod_int Try.underlying50 h4
    obtain ⟨y5, h5, s5⟩ := hf 5 _ rfl
    replace h5 : DataW.trod enc Try.prog w base spare held n 9 (List.take (Try.prog.cellsOf 9) (List.drop 7 [c0, c1, c2, c3, c4, c5, c6, c7])) = some y5 := h5
    rw [cells_string] at h5
    replace h5 : DataW.trod enc Try.prog w base spare held n 9 [c7] = some y5 := h5
    obtain ⟨a5, e5, w5⟩ := str_sz Try.underlying9 h5 s5
    cases e0
    cases e1
    cases e2
    cases e3
    cases e4
    cases e5
    exact ⟨a0, a1_0, a1_1, a1_2, a2, a3, a4, a5, rfl, w0, b1_0, b1_1, b1_2, bounds_u8 w2, bounds_u32 w3, bounds_u64 w4, w5⟩
/-- The cells of a Member. -/
def IsMember (cs : List Value) : Prop := ∃ (state : Int) (inc : Int), cs = [.int .u8 state, .int .u32 inc] ∧ (0 ≤ state ∧ state ≤ 255) ∧ (0 ≤ inc ∧ inc ≤ 4294967295)
set_option maxRecDepth 100000 in
theorem Member_cells {fuel : Nat} {cs : List Value} {x : DataW H × List MemPlace} (h : DataW.trod enc Try.prog w base spare held fuel 70 cs = some x) (hw : Sz Try.prog 70 x.1) : IsMember cs := by
  obtain ⟨hl, n, hf⟩ := fields_sz Try.underlying70 h hw
  rw [cells_Member] at hl
  match cs, hl with
  | [c0, c1], _ =>
    obtain ⟨y0, h0, s0⟩ := hf 0 _ rfl
    replace h0 : DataW.trod enc Try.prog w base spare held n 5 (List.take (Try.prog.cellsOf 5) (List.drop 0 [c0, c1])) = some y0 := h0
    rw [cells_u8] at h0
    replace h0 : DataW.trod enc Try.prog w base spare held n 5 [c0] = some y0 := h0
    obtain ⟨a0, e0, _, w0⟩ := DataW.trod_int Try.underlying5 h0
    obtain ⟨y1, h1, s1⟩ := hf 1 _ rfl
    replace h1 : DataW.trod enc Try.prog w base spare held n 22 (List.take (Try.prog.cellsOf 22) (List.drop 1 [c0, c1])) = some y1 := h1
    rw [cells_u32] at h1
    replace h1 : DataW.trod enc Try.prog w base spare held n 22 [c1] = some y1 := h1
    obtain ⟨a1, e1, _, w1⟩ := DataW.trod_int Try.underlying22 h1
    cases e0
    cases e1
    exact ⟨a0, a1, rfl, bounds_u8 w0, bounds_u32 w1⟩
/-- The cells of a News. -/
def IsNews (cs : List Value) : Prop := ∃ (node : Int) (m_state : Int) (m_inc : Int), cs = [.int .u8 node, .int .u8 m_state, .int .u32 m_inc] ∧ (0 ≤ node ∧ node ≤ 255) ∧ (0 ≤ m_state ∧ m_state ≤ 255) ∧ (0 ≤ m_inc ∧ m_inc ≤ 4294967295)
set_option maxRecDepth 100000 in
theorem News_cells {fuel : Nat} {cs : List Value} {x : DataW H × List MemPlace} (h : DataW.trod enc Try.prog w base spare held fuel 72 cs = some x) (hw : Sz Try.prog 72 x.1) : IsNews cs := by
  obtain ⟨hl, n, hf⟩ := fields_sz Try.underlying72 h hw
  rw [cells_News] at hl
  match cs, hl with
  | [c0, c1, c2], _ =>
    obtain ⟨y0, h0, s0⟩ := hf 0 _ rfl
    replace h0 : DataW.trod enc Try.prog w base spare held n 5 (List.take (Try.prog.cellsOf 5) (List.drop 0 [c0, c1, c2])) = some y0 := h0
    rw [cells_u8] at h0
    replace h0 : DataW.trod enc Try.prog w base spare held n 5 [c0] = some y0 := h0
    obtain ⟨a0, e0, _, w0⟩ := DataW.trod_int Try.underlying5 h0
    obtain ⟨y1, h1, s1⟩ := hf 1 _ rfl
    replace h1 : DataW.trod enc Try.prog w base spare held n 70 (List.take (Try.prog.cellsOf 70) (List.drop 1 [c0, c1, c2])) = some y1 := h1
    rw [cells_Member] at h1
    replace h1 : DataW.trod enc Try.prog w base spare held n 70 [c1, c2] = some y1 := h1
    obtain ⟨a1_0, a1_1, e1, b1_0, b1_1⟩ := Member_cells h1 s1
    cases e0
    cases e1
    exact ⟨a0, a1_0, a1_1, rfl, bounds_u8 w0, b1_0, b1_1⟩
/-- The cells of a Seen. -/
def IsSeen (cs : List Value) : Prop := ∃ (key : ByteArray) (s_p : Int) (s_l : Int) (s_n : Int) (kind : Int), cs = [.string key, .int .u64 s_p, .int .u32 s_l, .int .u8 s_n, .int .u8 kind] ∧ (key.size ≤ 140737488351232) ∧ (0 ≤ s_p ∧ s_p ≤ 18446744073709551615) ∧ (0 ≤ s_l ∧ s_l ≤ 4294967295) ∧ (0 ≤ s_n ∧ s_n ≤ 255) ∧ (0 ≤ kind ∧ kind ≤ 255)
set_option maxRecDepth 100000 in
theorem Seen_cells {fuel : Nat} {cs : List Value} {x : DataW H × List MemPlace} (h : DataW.trod enc Try.prog w base spare held fuel 56 cs = some x) (hw : Sz Try.prog 56 x.1) : IsSeen cs := by
  obtain ⟨hl, n, hf⟩ := fields_sz Try.underlying56 h hw
  rw [cells_Seen] at hl
  match cs, hl with
  | [c0, c1, c2, c3, c4], _ =>
    obtain ⟨y0, h0, s0⟩ := hf 0 _ rfl
    replace h0 : DataW.trod enc Try.prog w base spare held n 9 (List.take (Try.prog.cellsOf 9) (List.drop 0 [c0, c1, c2, c3, c4])) = some y0 := h0
    rw [cells_string] at h0
    replace h0 : DataW.trod enc Try.prog w base spare held n 9 [c0] = some y0 := h0
    obtain ⟨a0, e0, w0⟩ := str_sz Try.underlying9 h0 s0
    obtain ⟨y1, h1, s1⟩ := hf 1 _ rfl
    replace h1 : DataW.trod enc Try.prog w base spare held n 52 (List.take (Try.prog.cellsOf 52) (List.drop 1 [c0, c1, c2, c3, c4])) = some y1 := h1
    rw [cells_Stamp] at h1
    replace h1 : DataW.trod enc Try.prog w base spare held n 52 [c1, c2, c3] = some y1 := h1
    obtain ⟨a1_0, a1_1, a1_2, e1, b1_0, b1_1, b1_2⟩ := Stamp_cells h1 s1
    obtain ⟨y2, h2, s2⟩ := hf 2 _ rfl
    replace h2 : DataW.trod enc Try.prog w base spare held n 5 (List.take (Try.prog.cellsOf 5) (List.drop 4 [c0, c1, c2, c3, c4])) = some y2 := h2
    rw [cells_u8] at h2
    replace h2 : DataW.trod enc Try.prog w base spare held n 5 [c4] = some y2 := h2
    obtain ⟨a2, e2, _, w2⟩ := DataW.trod_int Try.underlying5 h2
    cases e0
    cases e1
    cases e2
    exact ⟨a0, a1_0, a1_1, a1_2, a2, rfl, w0, b1_0, b1_1, b1_2, bounds_u8 w2⟩
def Isstring (cs : List Value) : Prop := ∃ s : ByteArray, cs = [.string s] ∧ s.size ≤ 140737488351232
set_option maxRecDepth 100000 in
theorem string_cells {fuel : Nat} {cs : List Value} {x : DataW H × List MemPlace} (h : DataW.trod enc Try.prog w base spare held fuel 9 cs = some x) (hw : Sz Try.prog 9 x.1) : Isstring cs := str_sz Try.underlying9 h hw
def Isu64 (cs : List Value) : Prop := ∃ n : Int, cs = [.int .u64 n] ∧ 0 ≤ n ∧ n ≤ 18446744073709551615
set_option maxRecDepth 100000 in
theorem u64_cells {fuel : Nat} {cs : List Value} {x : DataW H × List MemPlace} (h : DataW.trod enc Try.prog w base spare held fuel 50 cs = some x) (hw : Sz Try.prog 50 x.1) : Isu64 cs := by
  obtain ⟨a, e, _, w0⟩ := DataW.trod_int Try.underlying50 h
  exact ⟨a, e, bounds_u64 w0⟩
end
/-- A row of cells, each of a kind, read as a list. -/
theorem list_ofN {α : Type} (d : Kd α) (P : α → Prop) (R : List Value → Prop) (n1 : Nat) (hsz : d.sz = n1) {w : World} (hR : ∀ cs, R cs → ∃ x, d.K w x cs ∧ P x) {b off : Nat} :
    ∀ n : Nat, (∀ i, i < n → ∃ cs, R cs ∧ cs.length = n1 ∧ ∀ j, j < n1 → w.cell? ⟨b, off + (i * n1 + j), none⟩ = cs[j]?) →
    ∃ l : List α, l.length = n ∧ (∀ x, x ∈ l → P x) ∧ ∀ (j : Nat) (p : α), l[j]? = some p → ∃ c : List Value, c.length = d.sz ∧ d.K w p c ∧ ∀ (i : Nat) (u : Value), c[i]? = some u → w.cell? (Addr.add ⟨b, off, none⟩ (j * d.sz + i)) = some u := by
  intro n
  induction n with
  | zero => intro _; exact ⟨[], rfl, fun x h => absurd h (by simp), fun j p h => by simp at h⟩
  | succ n ih =>
    intro h
    obtain ⟨l, hl, hP, hr⟩ := ih (fun i hi => h i (by omega))
    obtain ⟨cs, hc, hlen, hcell⟩ := h n (by omega)
    obtain ⟨x, hx, hp⟩ := hR cs hc
    refine ⟨l ++ [x], by rw [List.length_append, hl]; rfl, fun y hy => ?_, fun j p hjp => ?_⟩
    · rcases List.mem_append.1 hy with h1 | h1
      · exact hP y h1
      · rw [List.mem_singleton] at h1; rw [h1]; exact hp
    · rcases Nat.lt_or_ge j l.length with hj | hj
      · rw [List.getElem?_append_left hj] at hjp
        exact hr j p hjp
      · rw [List.getElem?_append_right hj] at hjp
        obtain ⟨rfl, rfl⟩ : j = n ∧ x = p := by
          rcases Nat.lt_or_ge (j - l.length) 1 with h1 | h1
          · have e : j - l.length = 0 := by omega
            rw [e] at hjp
            exact ⟨by omega, by simpa using hjp⟩
          · rw [List.getElem?_eq_none (by simpa using h1)] at hjp; cases hjp
        refine ⟨cs, by rw [hsz]; exact hlen, hx, fun i u hu => ?_⟩
        have hi : i < n1 := by
          rcases Nat.lt_or_ge i n1 with h1 | h1
          · exact h1
          · rw [List.getElem?_eq_none (by rw [hlen]; exact h1)] at hu; cases hu
        have h2 := hcell i hi
        rw [hu] at h2
        rw [hsz, Go.WideShapes.add_plain]
        exact h2
theorem C_ofN {α : Type} (d : Kd α) (P : α → Prop) (R : List Value → Prop) (n1 : Nat) (hsz : d.sz = n1) {w : World} (hR : ∀ cs, R cs → ∃ x, d.K w x cs ∧ P x) {A : Option Addr} {len cap : Nat}
    (r : len ≤ cap ∧ cap ≤ maxLen ∧ (0 < len → ∃ b off, A = some ⟨b, off, none⟩ ∧ b < w.heap.size ∧ ∀ i, i < len → ∃ cs, R cs ∧ cs.length = n1 ∧ ∀ j, j < n1 → w.cell? ⟨b, off + (i * n1 + j), none⟩ = cs[j]?)) :
    ∃ l : List α, l.length = len ∧ (∀ x, x ∈ l → P x) ∧ d.C w A l.length l ∧ l.length ≤ cap := by
  obtain ⟨hlc, hcm, hrow⟩ := r
  unfold maxLen at hcm
  by_cases h0 : len = 0
  · exact ⟨[], h0.symm, fun x h => absurd h (by simp), ⟨rfl, by simp, fun h => absurd h (by simp)⟩, by simp⟩
  · obtain ⟨b, off, hA, hb, hc⟩ := hrow (by omega)
    obtain ⟨l, hl, hP, hr⟩ := list_ofN d P R n1 hsz hR len hc
    exact ⟨l, hl, hP, ⟨rfl, by omega, fun _ => ⟨_, hA, hr⟩⟩, by omega⟩
section
variable {H : Type} {enc : TypeId × Value → H} {w : World} {base : Nat} {spare : Nat → Bool} {held : Bool}
set_option maxRecDepth 100000 in
theorem msg_value {r : Reach} {b0 : Nat} {v : Value} {d : DataW H} {p : List MemPlace} (hv : Value.okWide Try.prog w r b0 29 v) (h : DataW.Trod enc Try.prog w base spare held 29 v d p) (hw : Sz Try.prog 29 d) :
    ∃ (m : Msg.M) (A7 : Option Addr) (g7 : Nat) (A8 : Option Addr) (g8 : Nat) (A9 : Option Addr) (g9 : Nat) (A10 : Option Addr) (g10 : Nat) (A11 : Option Addr) (g11 : Nat), v = .agg #[.int .u8 m.kind, .int .u8 m.fr, .int .u8 m.dst, .int .u32 m.id, .int .u8 m.tg, .int .u8 m.rg, .bool m.flag, .slice A7 m.news.length g7, .slice A8 m.keys.length g8, .slice A9 m.recs.length g9, .slice A10 m.seen.length g10, .slice A11 m.digs.length g11] ∧ Msg.OkM m ∧ Msg.HasM m A7 g7 A8 g8 A9 g9 A10 g10 A11 g11 w := by
  obtain ⟨cs, rfl, hsz⟩ := okWide_struct Try.underlying29 hv
  obtain ⟨fuel, hf0⟩ := h
  have hf1 : DataW.trod enc Try.prog w base spare held fuel 29 cs.toList = some (d, p) := hf0
  obtain ⟨l'⟩ := cs
  have hf2 : DataW.trod enc Try.prog w base spare held fuel 29 l' = some (d, p) := hf1
  clear hf0 hf1 hsz hv
  obtain ⟨hl, n, hf⟩ := fields_sz Try.underlying29 hf2 hw
  rw [cells_Msg] at hl
  match l', hl with
  | [c0, c1, c2, c3, c4, c5, c6, c7, c8, c9, c10, c11], _ =>
    clear hf2
    obtain ⟨y0, h0, s0⟩ := hf 0 _ rfl
    replace h0 : DataW.trod enc Try.prog w base spare held n 5 (List.take (Try.prog.cellsOf 5) (List.drop 0 [c0, c1, c2, c3, c4, c5, c6, c7, c8, c9, c10, c11])) = some y0 := h0
    rw [cells_u8] at h0
    replace h0 : DataW.trod enc Try.prog w base spare held n 5 [c0] = some y0 := h0
    obtain ⟨a0, e0, _, w0⟩ := DataW.trod_int Try.underlying5 h0
    obtain ⟨y1, h1, s1⟩ := hf 1 _ rfl
    replace h1 : DataW.trod enc Try.prog w base spare held n 5 (List.take (Try.prog.cellsOf 5) (List.drop 1 [c0, c1, c2, c3, c4, c5, c6, c7, c8, c9, c10, c11])) = some y1 := h1
    rw [cells_u8] at h1
    replace h1 : DataW.trod enc Try.prog w base spare held n 5 [c1] = some y1 := h1
    obtain ⟨a1, e1, _, w1⟩ := DataW.trod_int Try.underlying5 h1
    obtain ⟨y2, h2, s2⟩ := hf 2 _ rfl
    replace h2 : DataW.trod enc Try.prog w base spare held n 5 (List.take (Try.prog.cellsOf 5) (List.drop 2 [c0, c1, c2, c3, c4, c5, c6, c7, c8, c9, c10, c11])) = some y2 := h2
    rw [cells_u8] at h2
    replace h2 : DataW.trod enc Try.prog w base spare held n 5 [c2] = some y2 := h2
    obtain ⟨a2, e2, _, w2⟩ := DataW.trod_int Try.underlying5 h2
    obtain ⟨y3, h3, s3⟩ := hf 3 _ rfl
    replace h3 : DataW.trod enc Try.prog w base spare held n 22 (List.take (Try.prog.cellsOf 22) (List.drop 3 [c0, c1, c2, c3, c4, c5, c6, c7, c8, c9, c10, c11])) = some y3 := h3
    rw [cells_u32] at h3
    replace h3 : DataW.trod enc Try.prog w base spare held n 22 [c3] = some y3 := h3
    obtain ⟨a3, e3, _, w3⟩ := DataW.trod_int Try.underlying22 h3
    obtain ⟨y4, h4, s4⟩ := hf 4 _ rfl
    replace h4 : DataW.trod enc Try.prog w base spare held n 5 (List.take (Try.prog.cellsOf 5) (List.drop 4 [c0, c1, c2, c3, c4, c5, c6, c7, c8, c9, c10, c11])) = some y4 := h4
    rw [cells_u8] at h4
    replace h4 : DataW.trod enc Try.prog w base spare held n 5 [c4] = some y4 := h4
    obtain ⟨a4, e4, _, w4⟩ := DataW.trod_int Try.underlying5 h4
    obtain ⟨y5, h5, s5⟩ := hf 5 _ rfl
    replace h5 : DataW.trod enc Try.prog w base spare held n 5 (List.take (Try.prog.cellsOf 5) (List.drop 5 [c0, c1, c2, c3, c4, c5, c6, c7, c8, c9, c10, c11])) = some y5 := h5
    rw [cells_u8] at h5
    replace h5 : DataW.trod enc Try.prog w base spare held n 5 [c5] = some y5 := h5
    obtain ⟨a5, e5, _, w5⟩ := DataW.trod_int Try.underlying5 h5
    obtain ⟨y6, h6, s6⟩ := hf 6 _ rfl
    replace h6 : DataW.trod enc Try.prog w base spare held n 4 (List.take (Try.prog.cellsOf 4) (List.drop 6 [c0, c1, c2, c3, c4, c5, c6, c7, c8, c9, c10, c11])) = some y6 := h6
    rw [cells_bool] at h6
    replace h6 : DataW.trod enc Try.prog w base spare held n 4 [c6] = some y6 := h6
    obtain ⟨a6, e6, _⟩ := DataW.trod_bool Try.underlying4 h6
    obtain ⟨y7, h7, s7⟩ := hf 7 _ rfl
    replace h7 : DataW.trod enc Try.prog w base spare held n 23 (List.take (Try.prog.cellsOf 23) (List.drop 7 [c0, c1, c2, c3, c4, c5, c6, c7, c8, c9, c10, c11])) = some y7 := h7
    rw [cells_s7] at h7
    replace h7 : DataW.trod enc Try.prog w base spare held n 23 [c7] = some y7 := h7
    obtain ⟨a7, n7, g7, e7, t7, r7⟩ := rows_sz (R := IsNews) Try.underlying23 cells_News (by decide) (by decide) (fun _ _ _ h s => News_cells h s) h7 s7
    obtain ⟨y8, h8, s8⟩ := hf 8 _ rfl
    replace h8 : DataW.trod enc Try.prog w base spare held n 24 (List.take (Try.prog.cellsOf 24) (List.drop 8 [c0, c1, c2, c3, c4, c5, c6, c7, c8, c9, c10, c11])) = some y8 := h8
    rw [cells_s8] at h8
    replace h8 : DataW.trod enc Try.prog w base spare held n 24 [c8] = some y8 := h8
    obtain ⟨a8, n8, g8, e8, t8, r8⟩ := rows_sz (R := Isstring) Try.underlying24 cells_string (by decide) (by decide) (fun _ _ _ h s => string_cells h s) h8 s8
    obtain ⟨y9, h9, s9⟩ := hf 9 _ rfl
    replace h9 : DataW.trod enc Try.prog w base spare held n 25 (List.take (Try.prog.cellsOf 25) (List.drop 9 [c0, c1, c2, c3, c4, c5, c6, c7, c8, c9, c10, c11])) = some y9 := h9
    rw [cells_s9] at h9
    replace h9 : DataW.trod enc Try.prog w base spare held n 25 [c9] = some y9 := h9
    obtain ⟨a9, n9, g9, e9, t9, r9⟩ := rows_sz (R := IsRec) Try.underlying25 cells_Rec (by decide) (by decide) (fun _ _ _ h s => Rec_cells h s) h9 s9
    obtain ⟨y10, h10, s10⟩ := hf 10 _ rfl
    replace h10 : DataW.trod enc Try.prog w base spare held n 26 (List.take (Try.prog.cellsOf 26) (List.drop 10 [c0, c1, c2, c3, c4, c5, c6, c7, c8, c9, c10, c11])) = some y10 := h10
    rw [cells_s10] at h10
    replace h10 : DataW.trod enc Try.prog w base spare held n 26 [c10] = some y10 := h10
    obtain ⟨a10, n10, g10, e10, t10, r10⟩ := rows_sz (R := IsSeen) Try.underlying26 cells_Seen (by decide) (by decide) (fun _ _ _ h s => Seen_cells h s) h10 s10
    obtain ⟨y11, h11, s11⟩ := hf 11 _ rfl
    replace h11 : DataW.trod enc Try.prog w base spare held n 27 (List.take (Try.prog.cellsOf 27) (List.drop 11 [c0, c1, c2, c3, c4, c5, c6, c7, c8, c9, c10, c11])) = some y11 := h11
    rw [cells_s11] at h11
    replace h11 : DataW.trod enc Try.prog w base spare held n 27 [c11] = some y11 := h11
    obtain ⟨a11, n11, g11, e11, t11, r11⟩ := rows_sz (R := Isu64) Try.underlying27 cells_u64 (by decide) (by decide) (fun _ _ _ h s => u64_cells h s) h11 s11
    cases e0
    cases e1
    cases e2
    cases e3
    cases e4
    cases e5
    cases e6
    cases e7
    cases e8
    cases e9
    cases e10
    cases e11
    obtain ⟨l7, e7, p7, c7, k7⟩ := C_ofN PMsg.k72 (fun x => Msg.isB x.f0 255 ∧ Msg.isB x.f1.f0 255 ∧ Msg.isB x.f1.f1 4294967295) IsNews 3 rfl (fun cs h => by
      obtain ⟨node, st, inc, rfl, h0, h1, h2⟩ := h
      exact ⟨⟨node, ⟨st, inc⟩⟩, PMsg.k72_mk w ⟨node, ⟨st, inc⟩⟩, h0, h1, h2⟩) r7
    obtain ⟨l8, e8, p8, c8, k8⟩ := C_ofN Kd.string (fun x => x.size ≤ 140737488351232) Isstring 1 rfl (fun cs h => by
      obtain ⟨s, rfl, h0⟩ := h
      exact ⟨s, rfl, h0⟩) r8
    obtain ⟨l9, e9, p9, c9, k9⟩ := C_ofN PMsg.k54 (fun x => (x.f0.size ≤ 140737488351232 ∧ x.f5.size ≤ 140737488351232) ∧ (0 ≤ x.f1.f0 ∧ x.f1.f0 ≤ 18446744073709551615) ∧ (0 ≤ x.f1.f1 ∧ x.f1.f1 ≤ 4294967295) ∧ (0 ≤ x.f1.f2 ∧ x.f1.f2 ≤ 255) ∧ (0 ≤ x.f2 ∧ x.f2 ≤ 255) ∧ (0 ≤ x.f3 ∧ x.f3 ≤ 4294967295) ∧ (0 ≤ x.f4 ∧ x.f4 ≤ 18446744073709551615)) IsRec 8 rfl (fun cs h => by
      obtain ⟨key, p, l, n, kind, flags, expiry, body, rfl, hs, hp, hl, hn, hk, hf, he, hb⟩ := h
      exact ⟨⟨key, ⟨p, l, n⟩, kind, flags, expiry, body⟩, PMsg.k54_mk w ⟨key, ⟨p, l, n⟩, kind, flags, expiry, body⟩, ⟨hs, hb⟩, hp, hl, hn, hk, hf, he⟩) r9
    obtain ⟨l10, e10, p10, c10, k10⟩ := C_ofN PMsg.k56 (fun x => x.f0.size ≤ 140737488351232 ∧ Msg.isB x.f1.f0 18446744073709551615 ∧ Msg.isB x.f1.f1 4294967295 ∧ Msg.isB x.f1.f2 255 ∧ Msg.isB x.f2 255) IsSeen 5 rfl (fun cs h => by
      obtain ⟨key, p, l, n, kind, rfl, hs, hp, hl, hn, hk⟩ := h
      exact ⟨⟨key, ⟨p, l, n⟩, kind⟩, PMsg.k56_mk w ⟨key, ⟨p, l, n⟩, kind⟩, hs, hp, hl, hn, hk⟩) r10
    obtain ⟨l11, e11, p11, c11, k11⟩ := C_ofN (Kd.int .u64) (fun x => Msg.isB x 18446744073709551615) Isu64 1 rfl (fun cs h => by
      obtain ⟨n, rfl, h0, h1⟩ := h
      exact ⟨n, rfl, h0, h1⟩) r11
    subst e7 e8 e9 e10 e11
    exact ⟨⟨a0, a1, a2, a3, a4, a5, a6, l7, l8, l9, l10, l11⟩, a7, g7, a8, g8, a9, g9, a10, g10, a11, g11, rfl,
      ⟨bounds_u8 w0, bounds_u8 w1, bounds_u8 w2, bounds_u32 w3, bounds_u8 w4, bounds_u8 w5, t7, t8, t9, t10, t11, p7, p8, p9, p10, p11⟩, ⟨c7, k7, c8, k8, c9, k9, c10, k10, c11, k11⟩⟩
end
end Go.Proofs.Ytdjompbhlkgmbaa.Opener
end

/- What the row needs, laid together out of PMsgx4, MsgGreat, PMsgx1, PMsgx2, PMsgx3, PMsgx6 (own texts and texts printed for this seat; wip/tools/group.py). -/
import Derived.Test.YtdjompbhlkgmbaaGB3
import Derived.Test.YtdjompbhlkgmbaaGB10
import Derived.Test.YtdjompbhlkgmbaaGB11
section
namespace Go.Proofs.Ytdjompbhlkgmbaa.PMsg
open Go.RowKit Go.Proofs.YtdjompbhlkgmbaaW.PrintWords Go.Proofs.YtdjompbhlkgmbaaW.PrintLast Go.Proofs.YtdjompbhlkgmbaaW.PrintMore
attribute [local go_sem] max2_int min2_int max_two min_two max_three min_three max_four min_four   -- for this text's walks alone
set_option linter.unusedVariables false
set_option linter.unusedSimpArgs false

/-! ### tattlerref22_Great: function 7 -/
mutual
def tattlerref22_Great.l0 : Nat → Int → Int → Int → Int → Int → Int → Int → Int → Int → Bool → List (S72) → List ByteArray → List (S54) → List (S56) → List Int → Option (Bool)
  | 0, _, _, _, _, _, _, _, _, _, _, _, _, _, _, _ => none
  | k + 1, x3, x30, x31, x102000, x102001, x102002, x102003, x102004, x102005, x102006, x102007, x102008, x102009, x102010, x102011 => if x31 < x30 then (if 0 ≤ x31 then (if x31 < (x102008.length : Int) then (if (wrap64 (x3 + ((rdOf ByteArray.empty x102008 x31).size : Int))) > 9000 then (some true) else (tattlerref22_Great.l0 k (wrap64 (x3 + ((rdOf ByteArray.empty x102008 x31).size : Int))) x30 (wrap64 (x31 + 1)) x102000 x102001 x102002 x102003 x102004 x102005 x102006 x102007 x102008 x102009 x102010 x102011)) else (none)) else (none)) else (tattlerref22_Great.l1 k x3 (x102009.length : Int) 0 x102000 x102001 x102002 x102003 x102004 x102005 x102006 x102007 x102008 x102009 x102010 x102011)
def tattlerref22_Great.l1 : Nat → Int → Int → Int → Int → Int → Int → Int → Int → Int → Bool → List (S72) → List ByteArray → List (S54) → List (S56) → List Int → Option (Bool)
  | 0, _, _, _, _, _, _, _, _, _, _, _, _, _, _, _ => none
  | k + 1, x3, x47, x48, x102000, x102001, x102002, x102003, x102004, x102005, x102006, x102007, x102008, x102009, x102010, x102011 => if x48 < x47 then (if 0 ≤ x48 then (if x48 < (x102009.length : Int) then (if (wrap64 (x3 + (wrap64 ((((rd_T54 x102009 x48).f0).size : Int) + (((rd_T54 x102009 x48).f5).size : Int))))) > 9000 then (some true) else (tattlerref22_Great.l1 k (wrap64 (x3 + (wrap64 ((((rd_T54 x102009 x48).f0).size : Int) + (((rd_T54 x102009 x48).f5).size : Int))))) x47 (wrap64 (x48 + 1)) x102000 x102001 x102002 x102003 x102004 x102005 x102006 x102007 x102008 x102009 x102010 x102011)) else (none)) else (none)) else (tattlerref22_Great.l2 k x3 (x102010.length : Int) 0 x102000 x102001 x102002 x102003 x102004 x102005 x102006 x102007 x102008 x102009 x102010 x102011)
def tattlerref22_Great.l2 : Nat → Int → Int → Int → Int → Int → Int → Int → Int → Int → Bool → List (S72) → List ByteArray → List (S54) → List (S56) → List Int → Option (Bool)
  | 0, _, _, _, _, _, _, _, _, _, _, _, _, _, _, _ => none
  | k + 1, x3, x73, x74, x102000, x102001, x102002, x102003, x102004, x102005, x102006, x102007, x102008, x102009, x102010, x102011 => if x74 < x73 then (if 0 ≤ x74 then (if x74 < (x102010.length : Int) then (if (wrap64 (x3 + (((rd_T56 x102010 x74).f0).size : Int))) > 9000 then (some true) else (tattlerref22_Great.l2 k (wrap64 (x3 + (((rd_T56 x102010 x74).f0).size : Int))) x73 (wrap64 (x74 + 1)) x102000 x102001 x102002 x102003 x102004 x102005 x102006 x102007 x102008 x102009 x102010 x102011)) else (none)) else (none)) else (some false)
end
def tattlerref22_Great.f (k : Nat) (a0_0 : Int) (a0_1 : Int) (a0_2 : Int) (a0_3 : Int) (a0_4 : Int) (a0_5 : Int) (a0_6 : Bool) (l0_7 : List (S72)) (l0_8 : List ByteArray) (l0_9 : List (S54)) (l0_10 : List (S56)) (l0_11 : List Int) : Option (Bool) := if (wrap64 ((wrap64 ((wrap64 ((wrap64 ((l0_7.length : Int) + (l0_8.length : Int))) + (l0_9.length : Int))) + (l0_10.length : Int))) + (l0_11.length : Int))) > 5000 then (some true) else (tattlerref22_Great.l0 k (wrap64 ((wrap64 ((wrap64 ((wrap64 ((l0_7.length : Int) + (l0_8.length : Int))) + (l0_9.length : Int))) + (l0_10.length : Int))) + (l0_11.length : Int))) (l0_8.length : Int) 0 a0_0 a0_1 a0_2 a0_3 a0_4 a0_5 a0_6 l0_7 l0_8 l0_9 l0_10 l0_11)
set_option maxHeartbeats 8000000 in
set_option maxRecDepth 100000 in
theorem tattlerref22_Great.calls (k : Nat) (a0_0 : Int) (a0_1 : Int) (a0_2 : Int) (a0_3 : Int) (a0_4 : Int) (a0_5 : Int) (a0_6 : Bool) (A0_7 : Option Addr) (c0_7 : Nat) (l0_7 : List (S72)) (A0_8 : Option Addr) (c0_8 : Nat) (l0_8 : List ByteArray) (A0_9 : Option Addr) (c0_9 : Nat) (l0_9 : List (S54)) (A0_10 : Option Addr) (c0_10 : Nat) (l0_10 : List (S56)) (A0_11 : Option Addr) (c0_11 : Nat) (l0_11 : List Int) (r : Bool) (w : World) (hr0_7 : Kd.C k72 w A0_7 l0_7.length l0_7) (hc0_7 : l0_7.length ≤ c0_7) (hr0_8 : Kd.C Kd.string w A0_8 l0_8.length l0_8) (hc0_8 : l0_8.length ≤ c0_8) (hr0_9 : Kd.C k54 w A0_9 l0_9.length l0_9) (hc0_9 : l0_9.length ≤ c0_9) (hr0_10 : Kd.C k56 w A0_10 l0_10.length l0_10) (hc0_10 : l0_10.length ≤ c0_10) (hr0_11 : Kd.C (Kd.int .u64) w A0_11 l0_11.length l0_11) (hc0_11 : l0_11.length ≤ c0_11) (h : tattlerref22_Great.f k a0_0 a0_1 a0_2 a0_3 a0_4 a0_5 a0_6 l0_7 l0_8 l0_9 l0_10 l0_11 = some r) :
    Calls Try.prog 7 #[.agg #[.int .u8 a0_0, .int .u8 a0_1, .int .u8 a0_2, .int .u32 a0_3, .int .u8 a0_4, .int .u8 a0_5, .bool a0_6, .slice A0_7 l0_7.length c0_7, .slice A0_8 l0_8.length c0_8, .slice A0_9 l0_9.length c0_9, .slice A0_10 l0_10.length c0_10, .slice A0_11 l0_11.length c0_11]] w fun e w' => e = .returned (.bool r) ∧ Below w.heap.size w w' := by
  have hu29 := Try.underlying29
  have HR0_7 := Aside0.mk hr0_7
  have HC0_7 := Aside0.mk hc0_7
  clear hr0_7 hc0_7
  have HR0_8 := Aside0.mk hr0_8
  have HC0_8 := Aside0.mk hc0_8
  clear hr0_8 hc0_8
  have HR0_9 := Aside0.mk hr0_9
  have HC0_9 := Aside0.mk hc0_9
  clear hr0_9 hc0_9
  have HR0_10 := Aside0.mk hr0_10
  have HC0_10 := Aside0.mk hc0_10
  clear hr0_10 hc0_10
  have HR0_11 := Aside0.mk hr0_11
  have HC0_11 := Aside0.mk hc0_11
  clear hr0_11 hc0_11
  have HB := Aside0.mk (Below.refl w.heap.size w)
  have H : (if (wrap64 ((wrap64 ((wrap64 ((wrap64 ((l0_7.length : Int) + (l0_8.length : Int))) + (l0_9.length : Int))) + (l0_10.length : Int))) + (l0_11.length : Int))) > 5000 then (some true) else (tattlerref22_Great.l0 k (wrap64 ((wrap64 ((wrap64 ((wrap64 ((l0_7.length : Int) + (l0_8.length : Int))) + (l0_9.length : Int))) + (l0_10.length : Int))) + (l0_11.length : Int))) (l0_8.length : Int) 0 a0_0 a0_1 a0_2 a0_3 a0_4 a0_5 a0_6 l0_7 l0_8 l0_9 l0_10 l0_11)) = some r := h
  clear h
  by_cases c2 : (wrap64 ((wrap64 ((wrap64 ((wrap64 ((l0_7.length : Int) + (l0_8.length : Int))) + (l0_9.length : Int))) + (l0_10.length : Int))) + (l0_11.length : Int))) > 5000
  · rw [if_pos c2] at H
    have c2b0 : decide (5000 < (wrap64 ((wrap64 ((wrap64 ((wrap64 ((l0_7.length : Int) + (l0_8.length : Int))) + (l0_9.length : Int))) + (l0_10.length : Int))) + (l0_11.length : Int)))) = true := decide_eq_true c2
    clear c2
    obtain rfl := Option.some.inj H
    go_enter Try.func7, Try.ntmps7
    go_wp2_with (first | ((with_reducible refine gate_dst (N := 1) rfl ?_); refine box_event ?hg (N := 1) ?hd (cs := #[.int .u8 a0_0, .int .u8 a0_1, .int .u8 a0_2, .int .u32 a0_3, .int .u8 a0_4, .int .u8 a0_5, .bool a0_6, .slice A0_7 l0_7.length c0_7, .slice A0_8 l0_8.length c0_8, .slice A0_9 l0_9.length c0_9, .slice A0_10 l0_10.length c0_10, .slice A0_11 l0_11.length c0_11]) (t := 29) ?hr ?_; (case hd => rfl); (case hg => rfl); (case hr => first | (go_simp; done) | (go_simp; rfl)); intro gb101 hg w3 hbox hb; have n0_ := Aside0.mk (below_step (by repeat (first | (with_reducible first | exact HB.out | apply below_alloc | apply pw_below_drewN | apply below_drew1) | exact HB.out)) hb); have n1_ := Aside0.mk (hbox); have n2_ := Aside0.mk ((by rw [hg]; exact (below_size (by repeat (first | (with_reducible first | exact HB.out | apply below_alloc | apply pw_below_drewN | apply below_drew1) | exact HB.out))) : w.heap.size ≤ gb101)); have n3_ := Aside0.mk ((by rw [hg]; exact (below_size (by repeat (first | (with_reducible first | exact HB.out | apply below_alloc | apply pw_below_drewN | apply below_drew1) | exact HB.out))) : w.heap.size ≤ gb101)); clear HB; have HB := n0_; have BK101 := n1_; have GW101 := n2_; have GE101 := n3_; clear n0_ n1_ n2_ n3_; clear hb hbox hg; have hcz4_0 : w3.cell? ⟨gb101, 0, none⟩ = some (.int .u8 a0_0) := (blk_cell BK101.out 0).trans rfl; have hcz4_1 : w3.cell? ⟨gb101, 1, none⟩ = some (.int .u8 a0_1) := (blk_cell BK101.out 1).trans rfl; have hcz4_2 : w3.cell? ⟨gb101, 2, none⟩ = some (.int .u8 a0_2) := (blk_cell BK101.out 2).trans rfl; have hcz4_3 : w3.cell? ⟨gb101, 3, none⟩ = some (.int .u32 a0_3) := (blk_cell BK101.out 3).trans rfl; have hcz4_4 : w3.cell? ⟨gb101, 4, none⟩ = some (.int .u8 a0_4) := (blk_cell BK101.out 4).trans rfl; have hcz4_5 : w3.cell? ⟨gb101, 5, none⟩ = some (.int .u8 a0_5) := (blk_cell BK101.out 5).trans rfl; have hcz4_6 : w3.cell? ⟨gb101, 6, none⟩ = some (.bool a0_6) := (blk_cell BK101.out 6).trans rfl; have hcz4_7 : w3.cell? ⟨gb101, 7, none⟩ = some (.slice A0_7 l0_7.length c0_7) := (blk_cell BK101.out 7).trans rfl; have hcz4_8 : w3.cell? ⟨gb101, 8, none⟩ = some (.slice A0_8 l0_8.length c0_8) := (blk_cell BK101.out 8).trans rfl; have hcz4_9 : w3.cell? ⟨gb101, 9, none⟩ = some (.slice A0_9 l0_9.length c0_9) := (blk_cell BK101.out 9).trans rfl; have hcz4_10 : w3.cell? ⟨gb101, 10, none⟩ = some (.slice A0_10 l0_10.length c0_10) := (blk_cell BK101.out 10).trans rfl; have hcz4_11 : w3.cell? ⟨gb101, 11, none⟩ = some (.slice A0_11 l0_11.length c0_11) := (blk_cell BK101.out 11).trans rfl; have hfz4_0 := blk_frozen BK101.out 0; have hfz4_1 := blk_frozen BK101.out 1; have hfz4_2 := blk_frozen BK101.out 2; have hfz4_3 := blk_frozen BK101.out 3; have hfz4_4 := blk_frozen BK101.out 4; have hfz4_5 := blk_frozen BK101.out 5; have hfz4_6 := blk_frozen BK101.out 6; have hfz4_7 := blk_frozen BK101.out 7; have hfz4_8 := blk_frozen BK101.out 8; have hfz4_9 := blk_frozen BK101.out 9; have hfz4_10 := blk_frozen BK101.out 10; have hfz4_11 := blk_frozen BK101.out 11))
    repeat (go_quiet (first | ((with_reducible refine gate_dst (N := 1) rfl ?_); refine box_event ?hg (N := 1) ?hd (cs := #[.int .u8 a0_0, .int .u8 a0_1, .int .u8 a0_2, .int .u32 a0_3, .int .u8 a0_4, .int .u8 a0_5, .bool a0_6, .slice A0_7 l0_7.length c0_7, .slice A0_8 l0_8.length c0_8, .slice A0_9 l0_9.length c0_9, .slice A0_10 l0_10.length c0_10, .slice A0_11 l0_11.length c0_11]) (t := 29) ?hr ?_; (case hd => rfl); (case hg => rfl); (case hr => first | (go_simp; done) | (go_simp; rfl)); intro gb101 hg w3 hbox hb; have n0_ := Aside0.mk (below_step (by repeat (first | (with_reducible first | exact HB.out | apply below_alloc | apply pw_below_drewN | apply below_drew1) | exact HB.out)) hb); have n1_ := Aside0.mk (hbox); have n2_ := Aside0.mk ((by rw [hg]; exact (below_size (by repeat (first | (with_reducible first | exact HB.out | apply below_alloc | apply pw_below_drewN | apply below_drew1) | exact HB.out))) : w.heap.size ≤ gb101)); have n3_ := Aside0.mk ((by rw [hg]; exact (below_size (by repeat (first | (with_reducible first | exact HB.out | apply below_alloc | apply pw_below_drewN | apply below_drew1) | exact HB.out))) : w.heap.size ≤ gb101)); clear HB; have HB := n0_; have BK101 := n1_; have GW101 := n2_; have GE101 := n3_; clear n0_ n1_ n2_ n3_; clear hb hbox hg; have hcz4_0 : w3.cell? ⟨gb101, 0, none⟩ = some (.int .u8 a0_0) := (blk_cell BK101.out 0).trans rfl; have hcz4_1 : w3.cell? ⟨gb101, 1, none⟩ = some (.int .u8 a0_1) := (blk_cell BK101.out 1).trans rfl; have hcz4_2 : w3.cell? ⟨gb101, 2, none⟩ = some (.int .u8 a0_2) := (blk_cell BK101.out 2).trans rfl; have hcz4_3 : w3.cell? ⟨gb101, 3, none⟩ = some (.int .u32 a0_3) := (blk_cell BK101.out 3).trans rfl; have hcz4_4 : w3.cell? ⟨gb101, 4, none⟩ = some (.int .u8 a0_4) := (blk_cell BK101.out 4).trans rfl; have hcz4_5 : w3.cell? ⟨gb101, 5, none⟩ = some (.int .u8 a0_5) := (blk_cell BK101.out 5).trans rfl; have hcz4_6 : w3.cell? ⟨gb101, 6, none⟩ = some (.bool a0_6) := (blk_cell BK101.out 6).trans rfl; have hcz4_7 : w3.cell? ⟨gb101, 7, none⟩ = some (.slice A0_7 l0_7.length c0_7) := (blk_cell BK101.out 7).trans rfl; have hcz4_8 : w3.cell? ⟨gb101, 8, none⟩ = some (.slice A0_8 l0_8.length c0_8) := (blk_cell BK101.out 8).trans rfl; have hcz4_9 : w3.cell? ⟨gb101, 9, none⟩ = some (.slice A0_9 l0_9.length c0_9) := (blk_cell BK101.out 9).trans rfl; have hcz4_10 : w3.cell? ⟨gb101, 10, none⟩ = some (.slice A0_10 l0_10.length c0_10) := (blk_cell BK101.out 10).trans rfl; have hcz4_11 : w3.cell? ⟨gb101, 11, none⟩ = some (.slice A0_11 l0_11.length c0_11) := (blk_cell BK101.out 11).trans rfl; have hfz4_0 := blk_frozen BK101.out 0; have hfz4_1 := blk_frozen BK101.out 1; have hfz4_2 := blk_frozen BK101.out 2; have hfz4_3 := blk_frozen BK101.out 3; have hfz4_4 := blk_frozen BK101.out 4; have hfz4_5 := blk_frozen BK101.out 5; have hfz4_6 := blk_frozen BK101.out 6; have hfz4_7 := blk_frozen BK101.out 7; have hfz4_8 := blk_frozen BK101.out 8; have hfz4_9 := blk_frozen BK101.out 9; have hfz4_10 := blk_frozen BK101.out 10; have hfz4_11 := blk_frozen BK101.out 11)); try go_wp2_with (first | ((with_reducible refine gate_dst (N := 1) rfl ?_); refine box_event ?hg (N := 1) ?hd (cs := #[.int .u8 a0_0, .int .u8 a0_1, .int .u8 a0_2, .int .u32 a0_3, .int .u8 a0_4, .int .u8 a0_5, .bool a0_6, .slice A0_7 l0_7.length c0_7, .slice A0_8 l0_8.length c0_8, .slice A0_9 l0_9.length c0_9, .slice A0_10 l0_10.length c0_10, .slice A0_11 l0_11.length c0_11]) (t := 29) ?hr ?_; (case hd => rfl); (case hg => rfl); (case hr => first | (go_simp; done) | (go_simp; rfl)); intro gb101 hg w3 hbox hb; have n0_ := Aside0.mk (below_step (by repeat (first | (with_reducible first | exact HB.out | apply below_alloc | apply pw_below_drewN | apply below_drew1) | exact HB.out)) hb); have n1_ := Aside0.mk (hbox); have n2_ := Aside0.mk ((by rw [hg]; exact (below_size (by repeat (first | (with_reducible first | exact HB.out | apply below_alloc | apply pw_below_drewN | apply below_drew1) | exact HB.out))) : w.heap.size ≤ gb101)); have n3_ := Aside0.mk ((by rw [hg]; exact (below_size (by repeat (first | (with_reducible first | exact HB.out | apply below_alloc | apply pw_below_drewN | apply below_drew1) | exact HB.out))) : w.heap.size ≤ gb101)); clear HB; have HB := n0_; have BK101 := n1_; have GW101 := n2_; have GE101 := n3_; clear n0_ n1_ n2_ n3_; clear hb hbox hg; have hcz4_0 : w3.cell? ⟨gb101, 0, none⟩ = some (.int .u8 a0_0) := (blk_cell BK101.out 0).trans rfl; have hcz4_1 : w3.cell? ⟨gb101, 1, none⟩ = some (.int .u8 a0_1) := (blk_cell BK101.out 1).trans rfl; have hcz4_2 : w3.cell? ⟨gb101, 2, none⟩ = some (.int .u8 a0_2) := (blk_cell BK101.out 2).trans rfl; have hcz4_3 : w3.cell? ⟨gb101, 3, none⟩ = some (.int .u32 a0_3) := (blk_cell BK101.out 3).trans rfl; have hcz4_4 : w3.cell? ⟨gb101, 4, none⟩ = some (.int .u8 a0_4) := (blk_cell BK101.out 4).trans rfl; have hcz4_5 : w3.cell? ⟨gb101, 5, none⟩ = some (.int .u8 a0_5) := (blk_cell BK101.out 5).trans rfl; have hcz4_6 : w3.cell? ⟨gb101, 6, none⟩ = some (.bool a0_6) := (blk_cell BK101.out 6).trans rfl; have hcz4_7 : w3.cell? ⟨gb101, 7, none⟩ = some (.slice A0_7 l0_7.length c0_7) := (blk_cell BK101.out 7).trans rfl; have hcz4_8 : w3.cell? ⟨gb101, 8, none⟩ = some (.slice A0_8 l0_8.length c0_8) := (blk_cell BK101.out 8).trans rfl; have hcz4_9 : w3.cell? ⟨gb101, 9, none⟩ = some (.slice A0_9 l0_9.length c0_9) := (blk_cell BK101.out 9).trans rfl; have hcz4_10 : w3.cell? ⟨gb101, 10, none⟩ = some (.slice A0_10 l0_10.length c0_10) := (blk_cell BK101.out 10).trans rfl; have hcz4_11 : w3.cell? ⟨gb101, 11, none⟩ = some (.slice A0_11 l0_11.length c0_11) := (blk_cell BK101.out 11).trans rfl; have hfz4_0 := blk_frozen BK101.out 0; have hfz4_1 := blk_frozen BK101.out 1; have hfz4_2 := blk_frozen BK101.out 2; have hfz4_3 := blk_frozen BK101.out 3; have hfz4_4 := blk_frozen BK101.out 4; have hfz4_5 := blk_frozen BK101.out 5; have hfz4_6 := blk_frozen BK101.out 6; have hfz4_7 := blk_frozen BK101.out 7; have hfz4_8 := blk_frozen BK101.out 8; have hfz4_9 := blk_frozen BK101.out 9; have hfz4_10 := blk_frozen BK101.out 10; have hfz4_11 := blk_frozen BK101.out 11)))
    go_ret
    exact ⟨by first | rfl | (simp [errW_none, errW_some] <;> rfl) | (simp [*, errW_none, errW_some] <;> rfl), by repeat (first | (with_reducible first | exact HB.out | apply below_alloc | apply pw_below_drewN | apply below_drew1 | refine below_set ?_ GE101.out) | exact HB.out)⟩
  · rw [if_neg c2] at H
    have c2b0 : decide (5000 < (wrap64 ((wrap64 ((wrap64 ((wrap64 ((l0_7.length : Int) + (l0_8.length : Int))) + (l0_9.length : Int))) + (l0_10.length : Int))) + (l0_11.length : Int)))) = false := decide_eq_false c2
    clear c2
    have H' := Aside0.mk H
    clear H
    go_enter Try.func7, Try.ntmps7
    go_wp2_with (first | ((with_reducible refine gate_dst (N := 1) rfl ?_); refine box_event ?hg (N := 1) ?hd (cs := #[.int .u8 a0_0, .int .u8 a0_1, .int .u8 a0_2, .int .u32 a0_3, .int .u8 a0_4, .int .u8 a0_5, .bool a0_6, .slice A0_7 l0_7.length c0_7, .slice A0_8 l0_8.length c0_8, .slice A0_9 l0_9.length c0_9, .slice A0_10 l0_10.length c0_10, .slice A0_11 l0_11.length c0_11]) (t := 29) ?hr ?_; (case hd => rfl); (case hg => rfl); (case hr => first | (go_simp; done) | (go_simp; rfl)); intro gb101 hg w5 hbox hb; have n0_ := Aside0.mk (below_step (by repeat (first | (with_reducible first | exact HB.out | apply below_alloc | apply pw_below_drewN | apply below_drew1) | exact HB.out)) hb); have n1_ := Aside0.mk (hbox); have n2_ := Aside0.mk ((by rw [hg]; exact (below_size (by repeat (first | (with_reducible first | exact HB.out | apply below_alloc | apply pw_below_drewN | apply below_drew1) | exact HB.out))) : w.heap.size ≤ gb101)); have n3_ := Aside0.mk ((by rw [hg]; exact (below_size (by repeat (first | (with_reducible first | exact HB.out | apply below_alloc | apply pw_below_drewN | apply below_drew1) | exact HB.out))) : w.heap.size ≤ gb101)); clear HB; have HB := n0_; have BK101 := n1_; have GW101 := n2_; have GE101 := n3_; clear n0_ n1_ n2_ n3_; clear hb hbox hg; have hcz6_0 : w5.cell? ⟨gb101, 0, none⟩ = some (.int .u8 a0_0) := (blk_cell BK101.out 0).trans rfl; have hcz6_1 : w5.cell? ⟨gb101, 1, none⟩ = some (.int .u8 a0_1) := (blk_cell BK101.out 1).trans rfl; have hcz6_2 : w5.cell? ⟨gb101, 2, none⟩ = some (.int .u8 a0_2) := (blk_cell BK101.out 2).trans rfl; have hcz6_3 : w5.cell? ⟨gb101, 3, none⟩ = some (.int .u32 a0_3) := (blk_cell BK101.out 3).trans rfl; have hcz6_4 : w5.cell? ⟨gb101, 4, none⟩ = some (.int .u8 a0_4) := (blk_cell BK101.out 4).trans rfl; have hcz6_5 : w5.cell? ⟨gb101, 5, none⟩ = some (.int .u8 a0_5) := (blk_cell BK101.out 5).trans rfl; have hcz6_6 : w5.cell? ⟨gb101, 6, none⟩ = some (.bool a0_6) := (blk_cell BK101.out 6).trans rfl; have hcz6_7 : w5.cell? ⟨gb101, 7, none⟩ = some (.slice A0_7 l0_7.length c0_7) := (blk_cell BK101.out 7).trans rfl; have hcz6_8 : w5.cell? ⟨gb101, 8, none⟩ = some (.slice A0_8 l0_8.length c0_8) := (blk_cell BK101.out 8).trans rfl; have hcz6_9 : w5.cell? ⟨gb101, 9, none⟩ = some (.slice A0_9 l0_9.length c0_9) := (blk_cell BK101.out 9).trans rfl; have hcz6_10 : w5.cell? ⟨gb101, 10, none⟩ = some (.slice A0_10 l0_10.length c0_10) := (blk_cell BK101.out 10).trans rfl; have hcz6_11 : w5.cell? ⟨gb101, 11, none⟩ = some (.slice A0_11 l0_11.length c0_11) := (blk_cell BK101.out 11).trans rfl; have hfz6_0 := blk_frozen BK101.out 0; have hfz6_1 := blk_frozen BK101.out 1; have hfz6_2 := blk_frozen BK101.out 2; have hfz6_3 := blk_frozen BK101.out 3; have hfz6_4 := blk_frozen BK101.out 4; have hfz6_5 := blk_frozen BK101.out 5; have hfz6_6 := blk_frozen BK101.out 6; have hfz6_7 := blk_frozen BK101.out 7; have hfz6_8 := blk_frozen BK101.out 8; have hfz6_9 := blk_frozen BK101.out 9; have hfz6_10 := blk_frozen BK101.out 10; have hfz6_11 := blk_frozen BK101.out 11))
    repeat (go_quiet (first | ((with_reducible refine gate_dst (N := 1) rfl ?_); refine box_event ?hg (N := 1) ?hd (cs := #[.int .u8 a0_0, .int .u8 a0_1, .int .u8 a0_2, .int .u32 a0_3, .int .u8 a0_4, .int .u8 a0_5, .bool a0_6, .slice A0_7 l0_7.length c0_7, .slice A0_8 l0_8.length c0_8, .slice A0_9 l0_9.length c0_9, .slice A0_10 l0_10.length c0_10, .slice A0_11 l0_11.length c0_11]) (t := 29) ?hr ?_; (case hd => rfl); (case hg => rfl); (case hr => first | (go_simp; done) | (go_simp; rfl)); intro gb101 hg w5 hbox hb; have n0_ := Aside0.mk (below_step (by repeat (first | (with_reducible first | exact HB.out | apply below_alloc | apply pw_below_drewN | apply below_drew1) | exact HB.out)) hb); have n1_ := Aside0.mk (hbox); have n2_ := Aside0.mk ((by rw [hg]; exact (below_size (by repeat (first | (with_reducible first | exact HB.out | apply below_alloc | apply pw_below_drewN | apply below_drew1) | exact HB.out))) : w.heap.size ≤ gb101)); have n3_ := Aside0.mk ((by rw [hg]; exact (below_size (by repeat (first | (with_reducible first | exact HB.out | apply below_alloc | apply pw_below_drewN | apply below_drew1) | exact HB.out))) : w.heap.size ≤ gb101)); clear HB; have HB := n0_; have BK101 := n1_; have GW101 := n2_; have GE101 := n3_; clear n0_ n1_ n2_ n3_; clear hb hbox hg; have hcz6_0 : w5.cell? ⟨gb101, 0, none⟩ = some (.int .u8 a0_0) := (blk_cell BK101.out 0).trans rfl; have hcz6_1 : w5.cell? ⟨gb101, 1, none⟩ = some (.int .u8 a0_1) := (blk_cell BK101.out 1).trans rfl; have hcz6_2 : w5.cell? ⟨gb101, 2, none⟩ = some (.int .u8 a0_2) := (blk_cell BK101.out 2).trans rfl; have hcz6_3 : w5.cell? ⟨gb101, 3, none⟩ = some (.int .u32 a0_3) := (blk_cell BK101.out 3).trans rfl; have hcz6_4 : w5.cell? ⟨gb101, 4, none⟩ = some (.int .u8 a0_4) := (blk_cell BK101.out 4).trans rfl; have hcz6_5 : w5.cell? ⟨gb101, 5, none⟩ = some (.int .u8 a0_5) := (blk_cell BK101.out 5).trans rfl; have hcz6_6 : w5.cell? ⟨gb101, 6, none⟩ = some (.bool a0_6) := (blk_cell BK101.out 6).trans rfl; have hcz6_7 : w5.cell? ⟨gb101, 7, none⟩ = some (.slice A0_7 l0_7.length c0_7) := (blk_cell BK101.out 7).trans rfl; have hcz6_8 : w5.cell? ⟨gb101, 8, none⟩ = some (.slice A0_8 l0_8.length c0_8) := (blk_cell BK101.out 8).trans rfl; have hcz6_9 : w5.cell? ⟨gb101, 9, none⟩ = some (.slice A0_9 l0_9.length c0_9) := (blk_cell BK101.out 9).trans rfl; have hcz6_10 : w5.cell? ⟨gb101, 10, none⟩ = some (.slice A0_10 l0_10.length c0_10) := (blk_cell BK101.out 10).trans rfl; have hcz6_11 : w5.cell? ⟨gb101, 11, none⟩ = some (.slice A0_11 l0_11.length c0_11) := (blk_cell BK101.out 11).trans rfl; have hfz6_0 := blk_frozen BK101.out 0; have hfz6_1 := blk_frozen BK101.out 1; have hfz6_2 := blk_frozen BK101.out 2; have hfz6_3 := blk_frozen BK101.out 3; have hfz6_4 := blk_frozen BK101.out 4; have hfz6_5 := blk_frozen BK101.out 5; have hfz6_6 := blk_frozen BK101.out 6; have hfz6_7 := blk_frozen BK101.out 7; have hfz6_8 := blk_frozen BK101.out 8; have hfz6_9 := blk_frozen BK101.out 9; have hfz6_10 := blk_frozen BK101.out 10; have hfz6_11 := blk_frozen BK101.out 11)); try go_wp2_with (first | ((with_reducible refine gate_dst (N := 1) rfl ?_); refine box_event ?hg (N := 1) ?hd (cs := #[.int .u8 a0_0, .int .u8 a0_1, .int .u8 a0_2, .int .u32 a0_3, .int .u8 a0_4, .int .u8 a0_5, .bool a0_6, .slice A0_7 l0_7.length c0_7, .slice A0_8 l0_8.length c0_8, .slice A0_9 l0_9.length c0_9, .slice A0_10 l0_10.length c0_10, .slice A0_11 l0_11.length c0_11]) (t := 29) ?hr ?_; (case hd => rfl); (case hg => rfl); (case hr => first | (go_simp; done) | (go_simp; rfl)); intro gb101 hg w5 hbox hb; have n0_ := Aside0.mk (below_step (by repeat (first | (with_reducible first | exact HB.out | apply below_alloc | apply pw_below_drewN | apply below_drew1) | exact HB.out)) hb); have n1_ := Aside0.mk (hbox); have n2_ := Aside0.mk ((by rw [hg]; exact (below_size (by repeat (first | (with_reducible first | exact HB.out | apply below_alloc | apply pw_below_drewN | apply below_drew1) | exact HB.out))) : w.heap.size ≤ gb101)); have n3_ := Aside0.mk ((by rw [hg]; exact (below_size (by repeat (first | (with_reducible first | exact HB.out | apply below_alloc | apply pw_below_drewN | apply below_drew1) | exact HB.out))) : w.heap.size ≤ gb101)); clear HB; have HB := n0_; have BK101 := n1_; have GW101 := n2_; have GE101 := n3_; clear n0_ n1_ n2_ n3_; clear hb hbox hg; have hcz6_0 : w5.cell? ⟨gb101, 0, none⟩ = some (.int .u8 a0_0) := (blk_cell BK101.out 0).trans rfl; have hcz6_1 : w5.cell? ⟨gb101, 1, none⟩ = some (.int .u8 a0_1) := (blk_cell BK101.out 1).trans rfl; have hcz6_2 : w5.cell? ⟨gb101, 2, none⟩ = some (.int .u8 a0_2) := (blk_cell BK101.out 2).trans rfl; have hcz6_3 : w5.cell? ⟨gb101, 3, none⟩ = some (.int .u32 a0_3) := (blk_cell BK101.out 3).trans rfl; have hcz6_4 : w5.cell? ⟨gb101, 4, none⟩ = some (.int .u8 a0_4) := (blk_cell BK101.out 4).trans rfl; have hcz6_5 : w5.cell? ⟨gb101, 5, none⟩ = some (.int .u8 a0_5) := (blk_cell BK101.out 5).trans rfl; have hcz6_6 : w5.cell? ⟨gb101, 6, none⟩ = some (.bool a0_6) := (blk_cell BK101.out 6).trans rfl; have hcz6_7 : w5.cell? ⟨gb101, 7, none⟩ = some (.slice A0_7 l0_7.length c0_7) := (blk_cell BK101.out 7).trans rfl; have hcz6_8 : w5.cell? ⟨gb101, 8, none⟩ = some (.slice A0_8 l0_8.length c0_8) := (blk_cell BK101.out 8).trans rfl; have hcz6_9 : w5.cell? ⟨gb101, 9, none⟩ = some (.slice A0_9 l0_9.length c0_9) := (blk_cell BK101.out 9).trans rfl; have hcz6_10 : w5.cell? ⟨gb101, 10, none⟩ = some (.slice A0_10 l0_10.length c0_10) := (blk_cell BK101.out 10).trans rfl; have hcz6_11 : w5.cell? ⟨gb101, 11, none⟩ = some (.slice A0_11 l0_11.length c0_11) := (blk_cell BK101.out 11).trans rfl; have hfz6_0 := blk_frozen BK101.out 0; have hfz6_1 := blk_frozen BK101.out 1; have hfz6_2 := blk_frozen BK101.out 2; have hfz6_3 := blk_frozen BK101.out 3; have hfz6_4 := blk_frozen BK101.out 4; have hfz6_5 := blk_frozen BK101.out 5; have hfz6_6 := blk_frozen BK101.out 6; have hfz6_7 := blk_frozen BK101.out 7; have hfz6_8 := blk_frozen BK101.out 8; have hfz6_9 := blk_frozen BK101.out 9; have hfz6_10 := blk_frozen BK101.out 10; have hfz6_11 := blk_frozen BK101.out 11)))
    go_loopg [3, 31] k (fun kq v3 v31 w' => ∃ (x3_1 : Int) (x31_1 : Int), v3 = .int .i64 x3_1 ∧ v31 = .int .i64 x31_1 ∧ Aside0 (tattlerref22_Great.l0 kq x3_1 (l0_8.length : Int) x31_1 a0_0 a0_1 a0_2 a0_3 a0_4 a0_5 a0_6 l0_7 l0_8 l0_9 l0_10 l0_11 = some r) ∧ Aside0 (kq ≤ k) ∧ Aside0 (w'.heap[gb101]? = some (.cells #[.int .u8 a0_0, .int .u8 a0_1, .int .u8 a0_2, .int .u32 a0_3, .int .u8 a0_4, .int .u8 a0_5, .bool a0_6, (.slice A0_7 l0_7.length c0_7), (.slice A0_8 l0_8.length c0_8), (.slice A0_9 l0_9.length c0_9), (.slice A0_10 l0_10.length c0_10), (.slice A0_11 l0_11.length c0_11)] 29 (0, 0))) ∧ Aside0 (Below w.heap.size w w'))
    case atStart => exact ⟨(wrap64 ((wrap64 ((wrap64 ((wrap64 ((l0_7.length : Int) + (l0_8.length : Int))) + (l0_9.length : Int))) + (l0_10.length : Int))) + (l0_11.length : Int))), (0), (by first | rfl | (simp; done) | (simp [*]; done)), (by first | rfl | (simp; done) | (simp [*]; done)), H', ⟨Nat.le_refl _⟩, ⟨by (with_reducible repeat (first | refine blk_drewN ?_ _ | refine blk_drew ?_ | refine blk_alloc ?_ _)); exact BK101.out⟩, ⟨by repeat (first | (with_reducible first | exact HB.out | apply below_alloc | apply pw_below_drewN | apply below_drew1 | refine below_set ?_ GE101.out) | exact HB.out)⟩⟩
    case round =>
      clear H'
      try clear c2
      try clear c2b0
      try clear p2
      try clear p6
      try clear hcz4_0
      try clear hcz4_1
      try clear hcz4_10
      try clear hcz4_11
      try clear hcz4_2
      try clear hcz4_3
      try clear hcz4_4
      try clear hcz4_5
      try clear hcz4_6
      try clear hcz4_7
      try clear hcz4_8
      try clear hcz4_9
      try clear hcz6_0
      try clear hcz6_1
      try clear hcz6_10
      try clear hcz6_11
      try clear hcz6_2
      try clear hcz6_3
      try clear hcz6_4
      try clear hcz6_5
      try clear hcz6_6
      try clear hcz6_7
      try clear hcz6_8
      try clear hcz6_9
      try clear hfz4_0
      try clear hfz4_1
      try clear hfz4_10
      try clear hfz4_11
      try clear hfz4_2
      try clear hfz4_3
      try clear hfz4_4
      try clear hfz4_5
      try clear hfz4_6
      try clear hfz4_7
      try clear hfz4_8
      try clear hfz4_9
      try clear hfz6_0
      try clear hfz6_1
      try clear hfz6_10
      try clear hfz6_11
      try clear hfz6_2
      try clear hfz6_3
      try clear hfz6_4
      try clear hfz6_5
      try clear hfz6_6
      try clear hfz6_7
      try clear hfz6_8
      try clear hfz6_9
      obtain ⟨x3_1, x31_1, rfl, rfl, HA, HK1, BK101, HB⟩ := hrel
      cases gk with
      | zero => exact absurd HA.out (by simp [tattlerref22_Great.l0])
      | succ k1 =>
        have H := HA.out
        clear HA
        simp only [tattlerref22_Great.l0] at H
        by_cases c7 : x31_1 < (l0_8.length : Int)
        · rw [if_pos c7] at H
          have c7b0 : decide (x31_1 < (l0_8.length : Int)) = true := decide_eq_true c7
          clear c7
          by_cases c8 : 0 ≤ x31_1
          · rw [if_pos c8] at H
            have c8b0 : decide (0 ≤ x31_1) = true := decide_eq_true c8
            clear c8
            by_cases c9 : x31_1 < (l0_8.length : Int)
            · rw [if_pos c9] at H
              have c9b0 : decide (x31_1 < (l0_8.length : Int)) = true := decide_eq_true c9
              clear c9
              by_cases c10 : (wrap64 (x3_1 + ((rdOf ByteArray.empty l0_8 x31_1).size : Int))) > 9000
              · rw [if_pos c10] at H
                have c10b0 : decide (9000 < (wrap64 (x3_1 + ((rdOf ByteArray.empty l0_8 x31_1).size : Int)))) = true := decide_eq_true c10
                clear c10
                obtain rfl := Option.some.inj H
                have hcz11_0 : wr.cell? ⟨gb101, 0, none⟩ = some (.int .u8 a0_0) := (blk_cell BK101.out 0).trans rfl
                have hcz11_1 : wr.cell? ⟨gb101, 1, none⟩ = some (.int .u8 a0_1) := (blk_cell BK101.out 1).trans rfl
                have hcz11_2 : wr.cell? ⟨gb101, 2, none⟩ = some (.int .u8 a0_2) := (blk_cell BK101.out 2).trans rfl
                have hcz11_3 : wr.cell? ⟨gb101, 3, none⟩ = some (.int .u32 a0_3) := (blk_cell BK101.out 3).trans rfl
                have hcz11_4 : wr.cell? ⟨gb101, 4, none⟩ = some (.int .u8 a0_4) := (blk_cell BK101.out 4).trans rfl
                have hcz11_5 : wr.cell? ⟨gb101, 5, none⟩ = some (.int .u8 a0_5) := (blk_cell BK101.out 5).trans rfl
                have hcz11_6 : wr.cell? ⟨gb101, 6, none⟩ = some (.bool a0_6) := (blk_cell BK101.out 6).trans rfl
                have hcz11_7 : wr.cell? ⟨gb101, 7, none⟩ = some (.slice A0_7 l0_7.length c0_7) := (blk_cell BK101.out 7).trans rfl
                have hcz11_8 : wr.cell? ⟨gb101, 8, none⟩ = some (.slice A0_8 l0_8.length c0_8) := (blk_cell BK101.out 8).trans rfl
                have hcz11_9 : wr.cell? ⟨gb101, 9, none⟩ = some (.slice A0_9 l0_9.length c0_9) := (blk_cell BK101.out 9).trans rfl
                have hcz11_10 : wr.cell? ⟨gb101, 10, none⟩ = some (.slice A0_10 l0_10.length c0_10) := (blk_cell BK101.out 10).trans rfl
                have hcz11_11 : wr.cell? ⟨gb101, 11, none⟩ = some (.slice A0_11 l0_11.length c0_11) := (blk_cell BK101.out 11).trans rfl
                have hfz11_0 := blk_frozen BK101.out 0
                have hfz11_1 := blk_frozen BK101.out 1
                have hfz11_2 := blk_frozen BK101.out 2
                have hfz11_3 := blk_frozen BK101.out 3
                have hfz11_4 := blk_frozen BK101.out 4
                have hfz11_5 := blk_frozen BK101.out 5
                have hfz11_6 := blk_frozen BK101.out 6
                have hfz11_7 := blk_frozen BK101.out 7
                have hfz11_8 := blk_frozen BK101.out 8
                have hfz11_9 := blk_frozen BK101.out 9
                have hfz11_10 := blk_frozen BK101.out 10
                have hfz11_11 := blk_frozen BK101.out 11
                have p102 : 0 ≤ (x31_1 : Int) := of_decide_eq_true (by first | (with_reducible assumption) | assumption)
                have q102 : x31_1 < (l0_8.length : Int) := of_decide_eq_true (by first | (with_reducible assumption) | assumption)
                obtain ⟨ad102, e102, hx102_0⟩ := Kd.at_string HR0_8.out x31_1 p102 q102
                cases e102
                replace hx102_0 := (HB.out.cell (World.block_lt_of_cell? w _ hx102_0)).trans hx102_0
                replace p102 := eq_true p102
                replace q102 := eq_true q102
                go_wp2
                repeat (go_quiet (fail); try go_wp2)
                go_ret
                exact ⟨by first | rfl | (simp [errW_none, errW_some] <;> rfl) | (simp [*, errW_none, errW_some] <;> rfl), by repeat (first | (with_reducible first | exact HB.out | apply below_alloc | apply pw_below_drewN | apply below_drew1 | refine below_set ?_ GE101.out) | exact HB.out)⟩
              · rw [if_neg c10] at H
                have c10b0 : decide (9000 < (wrap64 (x3_1 + ((rdOf ByteArray.empty l0_8 x31_1).size : Int)))) = false := decide_eq_false c10
                clear c10
                have H' := Aside0.mk H
                clear H
                have hcz12_0 : wr.cell? ⟨gb101, 0, none⟩ = some (.int .u8 a0_0) := (blk_cell BK101.out 0).trans rfl
                have hcz12_1 : wr.cell? ⟨gb101, 1, none⟩ = some (.int .u8 a0_1) := (blk_cell BK101.out 1).trans rfl
                have hcz12_2 : wr.cell? ⟨gb101, 2, none⟩ = some (.int .u8 a0_2) := (blk_cell BK101.out 2).trans rfl
                have hcz12_3 : wr.cell? ⟨gb101, 3, none⟩ = some (.int .u32 a0_3) := (blk_cell BK101.out 3).trans rfl
                have hcz12_4 : wr.cell? ⟨gb101, 4, none⟩ = some (.int .u8 a0_4) := (blk_cell BK101.out 4).trans rfl
                have hcz12_5 : wr.cell? ⟨gb101, 5, none⟩ = some (.int .u8 a0_5) := (blk_cell BK101.out 5).trans rfl
                have hcz12_6 : wr.cell? ⟨gb101, 6, none⟩ = some (.bool a0_6) := (blk_cell BK101.out 6).trans rfl
                have hcz12_7 : wr.cell? ⟨gb101, 7, none⟩ = some (.slice A0_7 l0_7.length c0_7) := (blk_cell BK101.out 7).trans rfl
                have hcz12_8 : wr.cell? ⟨gb101, 8, none⟩ = some (.slice A0_8 l0_8.length c0_8) := (blk_cell BK101.out 8).trans rfl
                have hcz12_9 : wr.cell? ⟨gb101, 9, none⟩ = some (.slice A0_9 l0_9.length c0_9) := (blk_cell BK101.out 9).trans rfl
                have hcz12_10 : wr.cell? ⟨gb101, 10, none⟩ = some (.slice A0_10 l0_10.length c0_10) := (blk_cell BK101.out 10).trans rfl
                have hcz12_11 : wr.cell? ⟨gb101, 11, none⟩ = some (.slice A0_11 l0_11.length c0_11) := (blk_cell BK101.out 11).trans rfl
                have hfz12_0 := blk_frozen BK101.out 0
                have hfz12_1 := blk_frozen BK101.out 1
                have hfz12_2 := blk_frozen BK101.out 2
                have hfz12_3 := blk_frozen BK101.out 3
                have hfz12_4 := blk_frozen BK101.out 4
                have hfz12_5 := blk_frozen BK101.out 5
                have hfz12_6 := blk_frozen BK101.out 6
                have hfz12_7 := blk_frozen BK101.out 7
                have hfz12_8 := blk_frozen BK101.out 8
                have hfz12_9 := blk_frozen BK101.out 9
                have hfz12_10 := blk_frozen BK101.out 10
                have hfz12_11 := blk_frozen BK101.out 11
                have p102 : 0 ≤ (x31_1 : Int) := of_decide_eq_true (by first | (with_reducible assumption) | assumption)
                have q102 : x31_1 < (l0_8.length : Int) := of_decide_eq_true (by first | (with_reducible assumption) | assumption)
                obtain ⟨ad102, e102, hx102_0⟩ := Kd.at_string HR0_8.out x31_1 p102 q102
                cases e102
                replace hx102_0 := (HB.out.cell (World.block_lt_of_cell? w _ hx102_0)).trans hx102_0
                replace p102 := eq_true p102
                replace q102 := eq_true q102
                go_wp2
                repeat (go_quiet (fail); try go_wp2)
                go_roundg k1
                case measure => have := HK1.out; omega
                case rel => exact ⟨(wrap64 (x3_1 + ((rdOf ByteArray.empty l0_8 x31_1).size : Int))), (wrap64 (x31_1 + 1)), (by first | rfl | (simp; done) | (simp [*]; done)), (by first | rfl | (simp; done) | (simp [*]; done)), H', ⟨by have := HK1.out; omega⟩, ⟨by (with_reducible repeat (first | refine blk_drewN ?_ _ | refine blk_drew ?_ | refine blk_alloc ?_ _)); exact BK101.out⟩, ⟨by repeat (first | (with_reducible first | exact HB.out | apply below_alloc | apply pw_below_drewN | apply below_drew1 | refine below_set ?_ GE101.out) | exact HB.out)⟩⟩
            · rw [if_neg c9] at H
              exact absurd H (by simp)
          · rw [if_neg c8] at H
            exact absurd H (by simp)
        · rw [if_neg c7] at H
          have c7b0 : decide (x31_1 < (l0_8.length : Int)) = false := decide_eq_false c7
          clear c7
          have H' := Aside0.mk H
          clear H
          have hcz13_0 : wr.cell? ⟨gb101, 0, none⟩ = some (.int .u8 a0_0) := (blk_cell BK101.out 0).trans rfl
          have hcz13_1 : wr.cell? ⟨gb101, 1, none⟩ = some (.int .u8 a0_1) := (blk_cell BK101.out 1).trans rfl
          have hcz13_2 : wr.cell? ⟨gb101, 2, none⟩ = some (.int .u8 a0_2) := (blk_cell BK101.out 2).trans rfl
          have hcz13_3 : wr.cell? ⟨gb101, 3, none⟩ = some (.int .u32 a0_3) := (blk_cell BK101.out 3).trans rfl
          have hcz13_4 : wr.cell? ⟨gb101, 4, none⟩ = some (.int .u8 a0_4) := (blk_cell BK101.out 4).trans rfl
          have hcz13_5 : wr.cell? ⟨gb101, 5, none⟩ = some (.int .u8 a0_5) := (blk_cell BK101.out 5).trans rfl
          have hcz13_6 : wr.cell? ⟨gb101, 6, none⟩ = some (.bool a0_6) := (blk_cell BK101.out 6).trans rfl
          have hcz13_7 : wr.cell? ⟨gb101, 7, none⟩ = some (.slice A0_7 l0_7.length c0_7) := (blk_cell BK101.out 7).trans rfl
          have hcz13_8 : wr.cell? ⟨gb101, 8, none⟩ = some (.slice A0_8 l0_8.length c0_8) := (blk_cell BK101.out 8).trans rfl
          have hcz13_9 : wr.cell? ⟨gb101, 9, none⟩ = some (.slice A0_9 l0_9.length c0_9) := (blk_cell BK101.out 9).trans rfl
          have hcz13_10 : wr.cell? ⟨gb101, 10, none⟩ = some (.slice A0_10 l0_10.length c0_10) := (blk_cell BK101.out 10).trans rfl
          have hcz13_11 : wr.cell? ⟨gb101, 11, none⟩ = some (.slice A0_11 l0_11.length c0_11) := (blk_cell BK101.out 11).trans rfl
          have hfz13_0 := blk_frozen BK101.out 0
          have hfz13_1 := blk_frozen BK101.out 1
          have hfz13_2 := blk_frozen BK101.out 2
          have hfz13_3 := blk_frozen BK101.out 3
          have hfz13_4 := blk_frozen BK101.out 4
          have hfz13_5 := blk_frozen BK101.out 5
          have hfz13_6 := blk_frozen BK101.out 6
          have hfz13_7 := blk_frozen BK101.out 7
          have hfz13_8 := blk_frozen BK101.out 8
          have hfz13_9 := blk_frozen BK101.out 9
          have hfz13_10 := blk_frozen BK101.out 10
          have hfz13_11 := blk_frozen BK101.out 11
          go_wp2
          repeat (go_quiet (fail); try go_wp2)
          go_loopg [3, 48] k1 (fun kq v3 v48 w' => ∃ (x3_2 : Int) (x48_2 : Int), v3 = .int .i64 x3_2 ∧ v48 = .int .i64 x48_2 ∧ Aside0 (tattlerref22_Great.l1 kq x3_2 (l0_9.length : Int) x48_2 a0_0 a0_1 a0_2 a0_3 a0_4 a0_5 a0_6 l0_7 l0_8 l0_9 l0_10 l0_11 = some r) ∧ Aside0 (kq ≤ k1) ∧ Aside0 (w'.heap[gb101]? = some (.cells #[.int .u8 a0_0, .int .u8 a0_1, .int .u8 a0_2, .int .u32 a0_3, .int .u8 a0_4, .int .u8 a0_5, .bool a0_6, (.slice A0_7 l0_7.length c0_7), (.slice A0_8 l0_8.length c0_8), (.slice A0_9 l0_9.length c0_9), (.slice A0_10 l0_10.length c0_10), (.slice A0_11 l0_11.length c0_11)] 29 (0, 0))) ∧ Aside0 (Below w.heap.size w w'))
          case atStart => exact ⟨(x3_1), (0), (by first | rfl | (simp; done) | (simp [*]; done)), (by first | rfl | (simp; done) | (simp [*]; done)), H', ⟨Nat.le_refl _⟩, ⟨by (with_reducible repeat (first | refine blk_drewN ?_ _ | refine blk_drew ?_ | refine blk_alloc ?_ _)); exact BK101.out⟩, ⟨by repeat (first | (with_reducible first | exact HB.out | apply below_alloc | apply pw_below_drewN | apply below_drew1 | refine below_set ?_ GE101.out) | exact HB.out)⟩⟩
          case round =>
            clear H'
            try clear c1
            try clear p1
            try clear q1
            try clear hx1
            try clear c2
            try clear c2b0
            try clear p2
            try clear p6
            try clear c7
            try clear c7b0
            try clear c8
            try clear c8b0
            try clear c9
            try clear c9b0
            try clear c10
            try clear c10b0
            try clear p10
            try clear q10
            try clear hx10
            try clear hcz11_0
            try clear hcz11_1
            try clear hcz11_10
            try clear hcz11_11
            try clear hcz11_2
            try clear hcz11_3
            try clear hcz11_4
            try clear hcz11_5
            try clear hcz11_6
            try clear hcz11_7
            try clear hcz11_8
            try clear hcz11_9
            try clear hcz12_0
            try clear hcz12_1
            try clear hcz12_10
            try clear hcz12_11
            try clear hcz12_2
            try clear hcz12_3
            try clear hcz12_4
            try clear hcz12_5
            try clear hcz12_6
            try clear hcz12_7
            try clear hcz12_8
            try clear hcz12_9
            try clear hcz13_0
            try clear hcz13_1
            try clear hcz13_10
            try clear hcz13_11
            try clear hcz13_2
            try clear hcz13_3
            try clear hcz13_4
            try clear hcz13_5
            try clear hcz13_6
            try clear hcz13_7
            try clear hcz13_8
            try clear hcz13_9
            try clear hcz4_0
            try clear hcz4_1
            try clear hcz4_10
            try clear hcz4_11
            try clear hcz4_2
            try clear hcz4_3
            try clear hcz4_4
            try clear hcz4_5
            try clear hcz4_6
            try clear hcz4_7
            try clear hcz4_8
            try clear hcz4_9
            try clear hcz6_0
            try clear hcz6_1
            try clear hcz6_10
            try clear hcz6_11
            try clear hcz6_2
            try clear hcz6_3
            try clear hcz6_4
            try clear hcz6_5
            try clear hcz6_6
            try clear hcz6_7
            try clear hcz6_8
            try clear hcz6_9
            try clear hfz11_0
            try clear hfz11_1
            try clear hfz11_10
            try clear hfz11_11
            try clear hfz11_2
            try clear hfz11_3
            try clear hfz11_4
            try clear hfz11_5
            try clear hfz11_6
            try clear hfz11_7
            try clear hfz11_8
            try clear hfz11_9
            try clear hfz12_0
            try clear hfz12_1
            try clear hfz12_10
            try clear hfz12_11
            try clear hfz12_2
            try clear hfz12_3
            try clear hfz12_4
            try clear hfz12_5
            try clear hfz12_6
            try clear hfz12_7
            try clear hfz12_8
            try clear hfz12_9
            try clear hfz13_0
            try clear hfz13_1
            try clear hfz13_10
            try clear hfz13_11
            try clear hfz13_2
            try clear hfz13_3
            try clear hfz13_4
            try clear hfz13_5
            try clear hfz13_6
            try clear hfz13_7
            try clear hfz13_8
            try clear hfz13_9
            try clear hfz4_0
            try clear hfz4_1
            try clear hfz4_10
            try clear hfz4_11
            try clear hfz4_2
            try clear hfz4_3
            try clear hfz4_4
            try clear hfz4_5
            try clear hfz4_6
            try clear hfz4_7
            try clear hfz4_8
            try clear hfz4_9
            try clear hfz6_0
            try clear hfz6_1
            try clear hfz6_10
            try clear hfz6_11
            try clear hfz6_2
            try clear hfz6_3
            try clear hfz6_4
            try clear hfz6_5
            try clear hfz6_6
            try clear hfz6_7
            try clear hfz6_8
            try clear hfz6_9
            try clear hx102_0
            try clear p102
            try clear p2
            try clear p6
            try clear q102
            obtain ⟨x3_2, x48_2, rfl, rfl, HA, HK2, BK101, HB⟩ := hrel
            cases gk with
            | zero => exact absurd HA.out (by simp [tattlerref22_Great.l1])
            | succ k2 =>
              have H := HA.out
              clear HA
              simp only [tattlerref22_Great.l1] at H
              by_cases c14 : x48_2 < (l0_9.length : Int)
              · rw [if_pos c14] at H
                have c14b0 : decide (x48_2 < (l0_9.length : Int)) = true := decide_eq_true c14
                clear c14
                by_cases c15 : 0 ≤ x48_2
                · rw [if_pos c15] at H
                  have c15b0 : decide (0 ≤ x48_2) = true := decide_eq_true c15
                  clear c15
                  by_cases c16 : x48_2 < (l0_9.length : Int)
                  · rw [if_pos c16] at H
                    have c16b0 : decide (x48_2 < (l0_9.length : Int)) = true := decide_eq_true c16
                    clear c16
                    by_cases c17 : (wrap64 (x3_2 + (wrap64 ((((rd_T54 l0_9 x48_2).f0).size : Int) + (((rd_T54 l0_9 x48_2).f5).size : Int))))) > 9000
                    · rw [if_pos c17] at H
                      have c17b0 : decide (9000 < (wrap64 (x3_2 + (wrap64 ((((rd_T54 l0_9 x48_2).f0).size : Int) + (((rd_T54 l0_9 x48_2).f5).size : Int)))))) = true := decide_eq_true c17
                      clear c17
                      obtain rfl := Option.some.inj H
                      have hcz18_0 : wr.cell? ⟨gb101, 0, none⟩ = some (.int .u8 a0_0) := (blk_cell BK101.out 0).trans rfl
                      have hcz18_1 : wr.cell? ⟨gb101, 1, none⟩ = some (.int .u8 a0_1) := (blk_cell BK101.out 1).trans rfl
                      have hcz18_2 : wr.cell? ⟨gb101, 2, none⟩ = some (.int .u8 a0_2) := (blk_cell BK101.out 2).trans rfl
                      have hcz18_3 : wr.cell? ⟨gb101, 3, none⟩ = some (.int .u32 a0_3) := (blk_cell BK101.out 3).trans rfl
                      have hcz18_4 : wr.cell? ⟨gb101, 4, none⟩ = some (.int .u8 a0_4) := (blk_cell BK101.out 4).trans rfl
                      have hcz18_5 : wr.cell? ⟨gb101, 5, none⟩ = some (.int .u8 a0_5) := (blk_cell BK101.out 5).trans rfl
                      have hcz18_6 : wr.cell? ⟨gb101, 6, none⟩ = some (.bool a0_6) := (blk_cell BK101.out 6).trans rfl
                      have hcz18_7 : wr.cell? ⟨gb101, 7, none⟩ = some (.slice A0_7 l0_7.length c0_7) := (blk_cell BK101.out 7).trans rfl
                      have hcz18_8 : wr.cell? ⟨gb101, 8, none⟩ = some (.slice A0_8 l0_8.length c0_8) := (blk_cell BK101.out 8).trans rfl
                      have hcz18_9 : wr.cell? ⟨gb101, 9, none⟩ = some (.slice A0_9 l0_9.length c0_9) := (blk_cell BK101.out 9).trans rfl
                      have hcz18_10 : wr.cell? ⟨gb101, 10, none⟩ = some (.slice A0_10 l0_10.length c0_10) := (blk_cell BK101.out 10).trans rfl
                      have hcz18_11 : wr.cell? ⟨gb101, 11, none⟩ = some (.slice A0_11 l0_11.length c0_11) := (blk_cell BK101.out 11).trans rfl
                      have hfz18_0 := blk_frozen BK101.out 0
                      have hfz18_1 := blk_frozen BK101.out 1
                      have hfz18_2 := blk_frozen BK101.out 2
                      have hfz18_3 := blk_frozen BK101.out 3
                      have hfz18_4 := blk_frozen BK101.out 4
                      have hfz18_5 := blk_frozen BK101.out 5
                      have hfz18_6 := blk_frozen BK101.out 6
                      have hfz18_7 := blk_frozen BK101.out 7
                      have hfz18_8 := blk_frozen BK101.out 8
                      have hfz18_9 := blk_frozen BK101.out 9
                      have hfz18_10 := blk_frozen BK101.out 10
                      have hfz18_11 := blk_frozen BK101.out 11
                      have p103 : 0 ≤ (x48_2 : Int) := of_decide_eq_true (by first | (with_reducible assumption) | assumption)
                      have q103 : x48_2 < (l0_9.length : Int) := of_decide_eq_true (by first | (with_reducible assumption) | assumption)
                      obtain ⟨ad103, e103, hx103_0, hx103_1, hx103_2, hx103_3, hx103_4, hx103_5, hx103_6, hx103_7⟩ := at_T54 HR0_9.out x48_2 p103 q103
                      cases e103
                      replace hx103_0 := (HB.out.cell (World.block_lt_of_cell? w _ hx103_0)).trans hx103_0
                      replace hx103_1 := (HB.out.cell (World.block_lt_of_cell? w _ hx103_1)).trans hx103_1
                      replace hx103_2 := (HB.out.cell (World.block_lt_of_cell? w _ hx103_2)).trans hx103_2
                      replace hx103_3 := (HB.out.cell (World.block_lt_of_cell? w _ hx103_3)).trans hx103_3
                      replace hx103_4 := (HB.out.cell (World.block_lt_of_cell? w _ hx103_4)).trans hx103_4
                      replace hx103_5 := (HB.out.cell (World.block_lt_of_cell? w _ hx103_5)).trans hx103_5
                      replace hx103_6 := (HB.out.cell (World.block_lt_of_cell? w _ hx103_6)).trans hx103_6
                      replace hx103_7 := (HB.out.cell (World.block_lt_of_cell? w _ hx103_7)).trans hx103_7
                      replace p103 := eq_true p103
                      replace q103 := eq_true q103
                      have p104 : 0 ≤ (x48_2 : Int) := of_decide_eq_true (by first | (with_reducible assumption) | assumption)
                      have q104 : x48_2 < (l0_9.length : Int) := of_decide_eq_true (by first | (with_reducible assumption) | assumption)
                      obtain ⟨ad104, e104, hx104_0, hx104_1, hx104_2, hx104_3, hx104_4, hx104_5, hx104_6, hx104_7⟩ := at_T54 HR0_9.out x48_2 p104 q104
                      obtain rfl : ad103 = ad104 := (by injection e104)
                      replace hx104_0 := (HB.out.cell (World.block_lt_of_cell? w _ hx104_0)).trans hx104_0
                      replace hx104_1 := (HB.out.cell (World.block_lt_of_cell? w _ hx104_1)).trans hx104_1
                      replace hx104_2 := (HB.out.cell (World.block_lt_of_cell? w _ hx104_2)).trans hx104_2
                      replace hx104_3 := (HB.out.cell (World.block_lt_of_cell? w _ hx104_3)).trans hx104_3
                      replace hx104_4 := (HB.out.cell (World.block_lt_of_cell? w _ hx104_4)).trans hx104_4
                      replace hx104_5 := (HB.out.cell (World.block_lt_of_cell? w _ hx104_5)).trans hx104_5
                      replace hx104_6 := (HB.out.cell (World.block_lt_of_cell? w _ hx104_6)).trans hx104_6
                      replace hx104_7 := (HB.out.cell (World.block_lt_of_cell? w _ hx104_7)).trans hx104_7
                      replace p104 := eq_true p104
                      replace q104 := eq_true q104
                      go_wp2
                      repeat (go_quiet (fail); try go_wp2)
                      go_ret
                      exact ⟨by first | rfl | (simp [errW_none, errW_some] <;> rfl) | (simp [*, errW_none, errW_some] <;> rfl), by repeat (first | (with_reducible first | exact HB.out | apply below_alloc | apply pw_below_drewN | apply below_drew1 | refine below_set ?_ GE101.out) | exact HB.out)⟩
                    · rw [if_neg c17] at H
                      have c17b0 : decide (9000 < (wrap64 (x3_2 + (wrap64 ((((rd_T54 l0_9 x48_2).f0).size : Int) + (((rd_T54 l0_9 x48_2).f5).size : Int)))))) = false := decide_eq_false c17
                      clear c17
                      have H' := Aside0.mk H
                      clear H
                      have hcz19_0 : wr.cell? ⟨gb101, 0, none⟩ = some (.int .u8 a0_0) := (blk_cell BK101.out 0).trans rfl
                      have hcz19_1 : wr.cell? ⟨gb101, 1, none⟩ = some (.int .u8 a0_1) := (blk_cell BK101.out 1).trans rfl
                      have hcz19_2 : wr.cell? ⟨gb101, 2, none⟩ = some (.int .u8 a0_2) := (blk_cell BK101.out 2).trans rfl
                      have hcz19_3 : wr.cell? ⟨gb101, 3, none⟩ = some (.int .u32 a0_3) := (blk_cell BK101.out 3).trans rfl
                      have hcz19_4 : wr.cell? ⟨gb101, 4, none⟩ = some (.int .u8 a0_4) := (blk_cell BK101.out 4).trans rfl
                      have hcz19_5 : wr.cell? ⟨gb101, 5, none⟩ = some (.int .u8 a0_5) := (blk_cell BK101.out 5).trans rfl
                      have hcz19_6 : wr.cell? ⟨gb101, 6, none⟩ = some (.bool a0_6) := (blk_cell BK101.out 6).trans rfl
                      have hcz19_7 : wr.cell? ⟨gb101, 7, none⟩ = some (.slice A0_7 l0_7.length c0_7) := (blk_cell BK101.out 7).trans rfl
                      have hcz19_8 : wr.cell? ⟨gb101, 8, none⟩ = some (.slice A0_8 l0_8.length c0_8) := (blk_cell BK101.out 8).trans rfl
                      have hcz19_9 : wr.cell? ⟨gb101, 9, none⟩ = some (.slice A0_9 l0_9.length c0_9) := (blk_cell BK101.out 9).trans rfl
                      have hcz19_10 : wr.cell? ⟨gb101, 10, none⟩ = some (.slice A0_10 l0_10.length c0_10) := (blk_cell BK101.out 10).trans rfl
                      have hcz19_11 : wr.cell? ⟨gb101, 11, none⟩ = some (.slice A0_11 l0_11.length c0_11) := (blk_cell BK101.out 11).trans rfl
                      have hfz19_0 := blk_frozen BK101.out 0
                      have hfz19_1 := blk_frozen BK101.out 1
                      have hfz19_2 := blk_frozen BK101.out 2
                      have hfz19_3 := blk_frozen BK101.out 3
                      have hfz19_4 := blk_frozen BK101.out 4
                      have hfz19_5 := blk_frozen BK101.out 5
                      have hfz19_6 := blk_frozen BK101.out 6
                      have hfz19_7 := blk_frozen BK101.out 7
                      have hfz19_8 := blk_frozen BK101.out 8
                      have hfz19_9 := blk_frozen BK101.out 9
                      have hfz19_10 := blk_frozen BK101.out 10
                      have hfz19_11 := blk_frozen BK101.out 11
                      have p103 : 0 ≤ (x48_2 : Int) := of_decide_eq_true (by first | (with_reducible assumption) | assumption)
                      have q103 : x48_2 < (l0_9.length : Int) := of_decide_eq_true (by first | (with_reducible assumption) | assumption)
                      obtain ⟨ad103, e103, hx103_0, hx103_1, hx103_2, hx103_3, hx103_4, hx103_5, hx103_6, hx103_7⟩ := at_T54 HR0_9.out x48_2 p103 q103
                      cases e103
                      replace hx103_0 := (HB.out.cell (World.block_lt_of_cell? w _ hx103_0)).trans hx103_0
                      replace hx103_1 := (HB.out.cell (World.block_lt_of_cell? w _ hx103_1)).trans hx103_1
                      replace hx103_2 := (HB.out.cell (World.block_lt_of_cell? w _ hx103_2)).trans hx103_2
                      replace hx103_3 := (HB.out.cell (World.block_lt_of_cell? w _ hx103_3)).trans hx103_3
                      replace hx103_4 := (HB.out.cell (World.block_lt_of_cell? w _ hx103_4)).trans hx103_4
                      replace hx103_5 := (HB.out.cell (World.block_lt_of_cell? w _ hx103_5)).trans hx103_5
                      replace hx103_6 := (HB.out.cell (World.block_lt_of_cell? w _ hx103_6)).trans hx103_6
                      replace hx103_7 := (HB.out.cell (World.block_lt_of_cell? w _ hx103_7)).trans hx103_7
                      replace p103 := eq_true p103
                      replace q103 := eq_true q103
                      have p104 : 0 ≤ (x48_2 : Int) := of_decide_eq_true (by first | (with_reducible assumption) | assumption)
                      have q104 : x48_2 < (l0_9.length : Int) := of_decide_eq_true (by first | (with_reducible assumption) | assumption)
                      obtain ⟨ad104, e104, hx104_0, hx104_1, hx104_2, hx104_3, hx104_4, hx104_5, hx104_6, hx104_7⟩ := at_T54 HR0_9.out x48_2 p104 q104
                      obtain rfl : ad103 = ad104 := (by injection e104)
                      replace hx104_0 := (HB.out.cell (World.block_lt_of_cell? w _ hx104_0)).trans hx104_0
                      replace hx104_1 := (HB.out.cell (World.block_lt_of_cell? w _ hx104_1)).trans hx104_1
                      replace hx104_2 := (HB.out.cell (World.block_lt_of_cell? w _ hx104_2)).trans hx104_2
                      replace hx104_3 := (HB.out.cell (World.block_lt_of_cell? w _ hx104_3)).trans hx104_3
                      replace hx104_4 := (HB.out.cell (World.block_lt_of_cell? w _ hx104_4)).trans hx104_4
                      replace hx104_5 := (HB.out.cell (World.block_lt_of_cell? w _ hx104_5)).trans hx104_5
                      replace hx104_6 := (HB.out.cell (World.block_lt_of_cell? w _ hx104_6)).trans hx104_6
                      replace hx104_7 := (HB.out.cell (World.block_lt_of_cell? w _ hx104_7)).trans hx104_7
                      replace p104 := eq_true p104
                      replace q104 := eq_true q104
                      go_wp2
                      repeat (go_quiet (fail); try go_wp2)
                      go_roundg k2
                      case measure => have := HK1.out; have := HK2.out; omega
                      case rel => exact ⟨(wrap64 (x3_2 + (wrap64 ((((rd_T54 l0_9 x48_2).f0).size : Int) + (((rd_T54 l0_9 x48_2).f5).size : Int))))), (wrap64 (x48_2 + 1)), (by first | rfl | (simp; done) | (simp [*]; done)), (by first | rfl | (simp; done) | (simp [*]; done)), H', ⟨by have := HK1.out; have := HK2.out; omega⟩, ⟨by (with_reducible repeat (first | refine blk_drewN ?_ _ | refine blk_drew ?_ | refine blk_alloc ?_ _)); exact BK101.out⟩, ⟨by repeat (first | (with_reducible first | exact HB.out | apply below_alloc | apply pw_below_drewN | apply below_drew1 | refine below_set ?_ GE101.out) | exact HB.out)⟩⟩
                  · rw [if_neg c16] at H
                    exact absurd H (by simp)
                · rw [if_neg c15] at H
                  exact absurd H (by simp)
              · rw [if_neg c14] at H
                have c14b0 : decide (x48_2 < (l0_9.length : Int)) = false := decide_eq_false c14
                clear c14
                have H' := Aside0.mk H
                clear H
                have hcz20_0 : wr.cell? ⟨gb101, 0, none⟩ = some (.int .u8 a0_0) := (blk_cell BK101.out 0).trans rfl
                have hcz20_1 : wr.cell? ⟨gb101, 1, none⟩ = some (.int .u8 a0_1) := (blk_cell BK101.out 1).trans rfl
                have hcz20_2 : wr.cell? ⟨gb101, 2, none⟩ = some (.int .u8 a0_2) := (blk_cell BK101.out 2).trans rfl
                have hcz20_3 : wr.cell? ⟨gb101, 3, none⟩ = some (.int .u32 a0_3) := (blk_cell BK101.out 3).trans rfl
                have hcz20_4 : wr.cell? ⟨gb101, 4, none⟩ = some (.int .u8 a0_4) := (blk_cell BK101.out 4).trans rfl
                have hcz20_5 : wr.cell? ⟨gb101, 5, none⟩ = some (.int .u8 a0_5) := (blk_cell BK101.out 5).trans rfl
                have hcz20_6 : wr.cell? ⟨gb101, 6, none⟩ = some (.bool a0_6) := (blk_cell BK101.out 6).trans rfl
                have hcz20_7 : wr.cell? ⟨gb101, 7, none⟩ = some (.slice A0_7 l0_7.length c0_7) := (blk_cell BK101.out 7).trans rfl
                have hcz20_8 : wr.cell? ⟨gb101, 8, none⟩ = some (.slice A0_8 l0_8.length c0_8) := (blk_cell BK101.out 8).trans rfl
                have hcz20_9 : wr.cell? ⟨gb101, 9, none⟩ = some (.slice A0_9 l0_9.length c0_9) := (blk_cell BK101.out 9).trans rfl
                have hcz20_10 : wr.cell? ⟨gb101, 10, none⟩ = some (.slice A0_10 l0_10.length c0_10) := (blk_cell BK101.out 10).trans rfl
                have hcz20_11 : wr.cell? ⟨gb101, 11, none⟩ = some (.slice A0_11 l0_11.length c0_11) := (blk_cell BK101.out 11).trans rfl
                have hfz20_0 := blk_frozen BK101.out 0
                have hfz20_1 := blk_frozen BK101.out 1
                have hfz20_2 := blk_frozen BK101.out 2
                have hfz20_3 := blk_frozen BK101.out 3
                have hfz20_4 := blk_frozen BK101.out 4
                have hfz20_5 := blk_frozen BK101.out 5
                have hfz20_6 := blk_frozen BK101.out 6
                have hfz20_7 := blk_frozen BK101.out 7
                have hfz20_8 := blk_frozen BK101.out 8
                have hfz20_9 := blk_frozen BK101.out 9
                have hfz20_10 := blk_frozen BK101.out 10
                have hfz20_11 := blk_frozen BK101.out 11
                go_wp2
                repeat (go_quiet (fail); try go_wp2)
                go_loopg [3, 74] k2 (fun kq v3 v74 w' => ∃ (x3_3 : Int) (x74_3 : Int), v3 = .int .i64 x3_3 ∧ v74 = .int .i64 x74_3 ∧ Aside0 (tattlerref22_Great.l2 kq x3_3 (l0_10.length : Int) x74_3 a0_0 a0_1 a0_2 a0_3 a0_4 a0_5 a0_6 l0_7 l0_8 l0_9 l0_10 l0_11 = some r) ∧ Aside0 (kq ≤ k2) ∧ Aside0 (w'.heap[gb101]? = some (.cells #[.int .u8 a0_0, .int .u8 a0_1, .int .u8 a0_2, .int .u32 a0_3, .int .u8 a0_4, .int .u8 a0_5, .bool a0_6, (.slice A0_7 l0_7.length c0_7), (.slice A0_8 l0_8.length c0_8), (.slice A0_9 l0_9.length c0_9), (.slice A0_10 l0_10.length c0_10), (.slice A0_11 l0_11.length c0_11)] 29 (0, 0))) ∧ Aside0 (Below w.heap.size w w'))
                case atStart => exact ⟨(x3_2), (0), (by first | rfl | (simp; done) | (simp [*]; done)), (by first | rfl | (simp; done) | (simp [*]; done)), H', ⟨Nat.le_refl _⟩, ⟨by (with_reducible repeat (first | refine blk_drewN ?_ _ | refine blk_drew ?_ | refine blk_alloc ?_ _)); exact BK101.out⟩, ⟨by repeat (first | (with_reducible first | exact HB.out | apply below_alloc | apply pw_below_drewN | apply below_drew1 | refine below_set ?_ GE101.out) | exact HB.out)⟩⟩
                case round =>
                  clear H'
                  try clear c1
                  try clear p1
                  try clear q1
                  try clear hx1
                  try clear c2
                  try clear c2b0
                  try clear p2
                  try clear p6
                  try clear c7
                  try clear c7b0
                  try clear c8
                  try clear c8b0
                  try clear c9
                  try clear c9b0
                  try clear c10
                  try clear c10b0
                  try clear p10
                  try clear q10
                  try clear hx10
                  try clear c14
                  try clear c14b0
                  try clear c15
                  try clear c15b0
                  try clear c16
                  try clear c16b0
                  try clear c17
                  try clear c17b0
                  try clear hcz11_0
                  try clear hcz11_1
                  try clear hcz11_10
                  try clear hcz11_11
                  try clear hcz11_2
                  try clear hcz11_3
                  try clear hcz11_4
                  try clear hcz11_5
                  try clear hcz11_6
                  try clear hcz11_7
                  try clear hcz11_8
                  try clear hcz11_9
                  try clear hcz12_0
                  try clear hcz12_1
                  try clear hcz12_10
                  try clear hcz12_11
                  try clear hcz12_2
                  try clear hcz12_3
                  try clear hcz12_4
                  try clear hcz12_5
                  try clear hcz12_6
                  try clear hcz12_7
                  try clear hcz12_8
                  try clear hcz12_9
                  try clear hcz13_0
                  try clear hcz13_1
                  try clear hcz13_10
                  try clear hcz13_11
                  try clear hcz13_2
                  try clear hcz13_3
                  try clear hcz13_4
                  try clear hcz13_5
                  try clear hcz13_6
                  try clear hcz13_7
                  try clear hcz13_8
                  try clear hcz13_9
                  try clear hcz18_0
                  try clear hcz18_1
                  try clear hcz18_10
                  try clear hcz18_11
                  try clear hcz18_2
                  try clear hcz18_3
                  try clear hcz18_4
                  try clear hcz18_5
                  try clear hcz18_6
                  try clear hcz18_7
                  try clear hcz18_8
                  try clear hcz18_9
                  try clear hcz19_0
                  try clear hcz19_1
                  try clear hcz19_10
                  try clear hcz19_11
                  try clear hcz19_2
                  try clear hcz19_3
                  try clear hcz19_4
                  try clear hcz19_5
                  try clear hcz19_6
                  try clear hcz19_7
                  try clear hcz19_8
                  try clear hcz19_9
                  try clear hcz20_0
                  try clear hcz20_1
                  try clear hcz20_10
                  try clear hcz20_11
                  try clear hcz20_2
                  try clear hcz20_3
                  try clear hcz20_4
                  try clear hcz20_5
                  try clear hcz20_6
                  try clear hcz20_7
                  try clear hcz20_8
                  try clear hcz20_9
                  try clear hcz4_0
                  try clear hcz4_1
                  try clear hcz4_10
                  try clear hcz4_11
                  try clear hcz4_2
                  try clear hcz4_3
                  try clear hcz4_4
                  try clear hcz4_5
                  try clear hcz4_6
                  try clear hcz4_7
                  try clear hcz4_8
                  try clear hcz4_9
                  try clear hcz6_0
                  try clear hcz6_1
                  try clear hcz6_10
                  try clear hcz6_11
                  try clear hcz6_2
                  try clear hcz6_3
                  try clear hcz6_4
                  try clear hcz6_5
                  try clear hcz6_6
                  try clear hcz6_7
                  try clear hcz6_8
                  try clear hcz6_9
                  try clear hfz11_0
                  try clear hfz11_1
                  try clear hfz11_10
                  try clear hfz11_11
                  try clear hfz11_2
                  try clear hfz11_3
                  try clear hfz11_4
                  try clear hfz11_5
                  try clear hfz11_6
                  try clear hfz11_7
                  try clear hfz11_8
                  try clear hfz11_9
                  try clear hfz12_0
                  try clear hfz12_1
                  try clear hfz12_10
                  try clear hfz12_11
                  try clear hfz12_2
                  try clear hfz12_3
                  try clear hfz12_4
                  try clear hfz12_5
                  try clear hfz12_6
                  try clear hfz12_7
                  try clear hfz12_8
                  try clear hfz12_9
                  try clear hfz13_0
                  try clear hfz13_1
                  try clear hfz13_10
                  try clear hfz13_11
                  try clear hfz13_2
                  try clear hfz13_3
                  try clear hfz13_4
                  try clear hfz13_5
                  try clear hfz13_6
                  try clear hfz13_7
                  try clear hfz13_8
                  try clear hfz13_9
                  try clear hfz18_0
                  try clear hfz18_1
                  try clear hfz18_10
                  try clear hfz18_11
                  try clear hfz18_2
                  try clear hfz18_3
                  try clear hfz18_4
                  try clear hfz18_5
                  try clear hfz18_6
                  try clear hfz18_7
                  try clear hfz18_8
                  try clear hfz18_9
                  try clear hfz19_0
                  try clear hfz19_1
                  try clear hfz19_10
                  try clear hfz19_11
                  try clear hfz19_2
                  try clear hfz19_3
                  try clear hfz19_4
                  try clear hfz19_5
                  try clear hfz19_6
                  try clear hfz19_7
                  try clear hfz19_8
                  try clear hfz19_9
                  try clear hfz20_0
                  try clear hfz20_1
                  try clear hfz20_10
                  try clear hfz20_11
                  try clear hfz20_2
                  try clear hfz20_3
                  try clear hfz20_4
                  try clear hfz20_5
                  try clear hfz20_6
                  try clear hfz20_7
                  try clear hfz20_8
                  try clear hfz20_9
                  try clear hfz4_0
                  try clear hfz4_1
                  try clear hfz4_10
                  try clear hfz4_11
                  try clear hfz4_2
                  try clear hfz4_3
                  try clear hfz4_4
                  try clear hfz4_5
                  try clear hfz4_6
                  try clear hfz4_7
                  try clear hfz4_8
                  try clear hfz4_9
                  try clear hfz6_0
                  try clear hfz6_1
                  try clear hfz6_10
                  try clear hfz6_11
                  try clear hfz6_2
                  try clear hfz6_3
                  try clear hfz6_4
                  try clear hfz6_5
                  try clear hfz6_6
                  try clear hfz6_7
                  try clear hfz6_8
                  try clear hfz6_9
                  try clear hx102_0
                  try clear hx103_0
                  try clear hx103_1
                  try clear hx103_2
                  try clear hx103_3
                  try clear hx103_4
                  try clear hx103_5
                  try clear hx103_6
                  try clear hx103_7
                  try clear hx104_0
                  try clear hx104_1
                  try clear hx104_2
                  try clear hx104_3
                  try clear hx104_4
                  try clear hx104_5
                  try clear hx104_6
                  try clear hx104_7
                  try clear p1
                  try clear p10
                  try clear p102
                  try clear p103
                  try clear p104
                  try clear p2
                  try clear p6
                  try clear q1
                  try clear q10
                  try clear q102
                  try clear q103
                  try clear q104
                  obtain ⟨x3_3, x74_3, rfl, rfl, HA, HK3, BK101, HB⟩ := hrel
                  cases gk with
                  | zero => exact absurd HA.out (by simp [tattlerref22_Great.l2])
                  | succ k3 =>
                    have H := HA.out
                    clear HA
                    simp only [tattlerref22_Great.l2] at H
                    by_cases c21 : x74_3 < (l0_10.length : Int)
                    · rw [if_pos c21] at H
                      have c21b0 : decide (x74_3 < (l0_10.length : Int)) = true := decide_eq_true c21
                      clear c21
                      by_cases c22 : 0 ≤ x74_3
                      · rw [if_pos c22] at H
                        have c22b0 : decide (0 ≤ x74_3) = true := decide_eq_true c22
                        clear c22
                        by_cases c23 : x74_3 < (l0_10.length : Int)
                        · rw [if_pos c23] at H
                          have c23b0 : decide (x74_3 < (l0_10.length : Int)) = true := decide_eq_true c23
                          clear c23
                          by_cases c24 : (wrap64 (x3_3 + (((rd_T56 l0_10 x74_3).f0).size : Int))) > 9000
                          · rw [if_pos c24] at H
                            have c24b0 : decide (9000 < (wrap64 (x3_3 + (((rd_T56 l0_10 x74_3).f0).size : Int)))) = true := decide_eq_true c24
                            clear c24
                            obtain rfl := Option.some.inj H
                            have hcz25_0 : wr.cell? ⟨gb101, 0, none⟩ = some (.int .u8 a0_0) := (blk_cell BK101.out 0).trans rfl
                            have hcz25_1 : wr.cell? ⟨gb101, 1, none⟩ = some (.int .u8 a0_1) := (blk_cell BK101.out 1).trans rfl
                            have hcz25_2 : wr.cell? ⟨gb101, 2, none⟩ = some (.int .u8 a0_2) := (blk_cell BK101.out 2).trans rfl
                            have hcz25_3 : wr.cell? ⟨gb101, 3, none⟩ = some (.int .u32 a0_3) := (blk_cell BK101.out 3).trans rfl
                            have hcz25_4 : wr.cell? ⟨gb101, 4, none⟩ = some (.int .u8 a0_4) := (blk_cell BK101.out 4).trans rfl
                            have hcz25_5 : wr.cell? ⟨gb101, 5, none⟩ = some (.int .u8 a0_5) := (blk_cell BK101.out 5).trans rfl
                            have hcz25_6 : wr.cell? ⟨gb101, 6, none⟩ = some (.bool a0_6) := (blk_cell BK101.out 6).trans rfl
                            have hcz25_7 : wr.cell? ⟨gb101, 7, none⟩ = some (.slice A0_7 l0_7.length c0_7) := (blk_cell BK101.out 7).trans rfl
                            have hcz25_8 : wr.cell? ⟨gb101, 8, none⟩ = some (.slice A0_8 l0_8.length c0_8) := (blk_cell BK101.out 8).trans rfl
                            have hcz25_9 : wr.cell? ⟨gb101, 9, none⟩ = some (.slice A0_9 l0_9.length c0_9) := (blk_cell BK101.out 9).trans rfl
                            have hcz25_10 : wr.cell? ⟨gb101, 10, none⟩ = some (.slice A0_10 l0_10.length c0_10) := (blk_cell BK101.out 10).trans rfl
                            have hcz25_11 : wr.cell? ⟨gb101, 11, none⟩ = some (.slice A0_11 l0_11.length c0_11) := (blk_cell BK101.out 11).trans rfl
                            have hfz25_0 := blk_frozen BK101.out 0
                            have hfz25_1 := blk_frozen BK101.out 1
                            have hfz25_2 := blk_frozen BK101.out 2
                            have hfz25_3 := blk_frozen BK101.out 3
                            have hfz25_4 := blk_frozen BK101.out 4
                            have hfz25_5 := blk_frozen BK101.out 5
                            have hfz25_6 := blk_frozen BK101.out 6
                            have hfz25_7 := blk_frozen BK101.out 7
                            have hfz25_8 := blk_frozen BK101.out 8
                            have hfz25_9 := blk_frozen BK101.out 9
                            have hfz25_10 := blk_frozen BK101.out 10
                            have hfz25_11 := blk_frozen BK101.out 11
                            have p105 : 0 ≤ (x74_3 : Int) := of_decide_eq_true (by first | (with_reducible assumption) | assumption)
                            have q105 : x74_3 < (l0_10.length : Int) := of_decide_eq_true (by first | (with_reducible assumption) | assumption)
                            obtain ⟨ad105, e105, hx105_0, hx105_1, hx105_2, hx105_3, hx105_4⟩ := at_T56 HR0_10.out x74_3 p105 q105
                            cases e105
                            replace hx105_0 := (HB.out.cell (World.block_lt_of_cell? w _ hx105_0)).trans hx105_0
                            replace hx105_1 := (HB.out.cell (World.block_lt_of_cell? w _ hx105_1)).trans hx105_1
                            replace hx105_2 := (HB.out.cell (World.block_lt_of_cell? w _ hx105_2)).trans hx105_2
                            replace hx105_3 := (HB.out.cell (World.block_lt_of_cell? w _ hx105_3)).trans hx105_3
                            replace hx105_4 := (HB.out.cell (World.block_lt_of_cell? w _ hx105_4)).trans hx105_4
                            replace p105 := eq_true p105
                            replace q105 := eq_true q105
                            go_wp2
                            repeat (go_quiet (fail); try go_wp2)
                            go_ret
                            exact ⟨by first | rfl | (simp [errW_none, errW_some] <;> rfl) | (simp [*, errW_none, errW_some] <;> rfl), by repeat (first | (with_reducible first | exact HB.out | apply below_alloc | apply pw_below_drewN | apply below_drew1 | refine below_set ?_ GE101.out) | exact HB.out)⟩
                          · rw [if_neg c24] at H
                            have c24b0 : decide (9000 < (wrap64 (x3_3 + (((rd_T56 l0_10 x74_3).f0).size : Int)))) = false := decide_eq_false c24
                            clear c24
                            have H' := Aside0.mk H
                            clear H
                            have hcz26_0 : wr.cell? ⟨gb101, 0, none⟩ = some (.int .u8 a0_0) := (blk_cell BK101.out 0).trans rfl
                            have hcz26_1 : wr.cell? ⟨gb101, 1, none⟩ = some (.int .u8 a0_1) := (blk_cell BK101.out 1).trans rfl
                            have hcz26_2 : wr.cell? ⟨gb101, 2, none⟩ = some (.int .u8 a0_2) := (blk_cell BK101.out 2).trans rfl
                            have hcz26_3 : wr.cell? ⟨gb101, 3, none⟩ = some (.int .u32 a0_3) := (blk_cell BK101.out 3).trans rfl
                            have hcz26_4 : wr.cell? ⟨gb101, 4, none⟩ = some (.int .u8 a0_4) := (blk_cell BK101.out 4).trans rfl
                            have hcz26_5 : wr.cell? ⟨gb101, 5, none⟩ = some (.int .u8 a0_5) := (blk_cell BK101.out 5).trans rfl
                            have hcz26_6 : wr.cell? ⟨gb101, 6, none⟩ = some (.bool a0_6) := (blk_cell BK101.out 6).trans rfl
                            have hcz26_7 : wr.cell? ⟨gb101, 7, none⟩ = some (.slice A0_7 l0_7.length c0_7) := (blk_cell BK101.out 7).trans rfl
                            have hcz26_8 : wr.cell? ⟨gb101, 8, none⟩ = some (.slice A0_8 l0_8.length c0_8) := (blk_cell BK101.out 8).trans rfl
                            have hcz26_9 : wr.cell? ⟨gb101, 9, none⟩ = some (.slice A0_9 l0_9.length c0_9) := (blk_cell BK101.out 9).trans rfl
                            have hcz26_10 : wr.cell? ⟨gb101, 10, none⟩ = some (.slice A0_10 l0_10.length c0_10) := (blk_cell BK101.out 10).trans rfl
                            have hcz26_11 : wr.cell? ⟨gb101, 11, none⟩ = some (.slice A0_11 l0_11.length c0_11) := (blk_cell BK101.out 11).trans rfl
                            have hfz26_0 := blk_frozen BK101.out 0
                            have hfz26_1 := blk_frozen BK101.out 1
                            have hfz26_2 := blk_frozen BK101.out 2
                            have hfz26_3 := blk_frozen BK101.out 3
                            have hfz26_4 := blk_frozen BK101.out 4
                            have hfz26_5 := blk_frozen BK101.out 5
                            have hfz26_6 := blk_frozen BK101.out 6
                            have hfz26_7 := blk_frozen BK101.out 7
                            have hfz26_8 := blk_frozen BK101.out 8
                            have hfz26_9 := blk_frozen BK101.out 9
                            have hfz26_10 := blk_frozen BK101.out 10
                            have hfz26_11 := blk_frozen BK101.out 11
                            have p105 : 0 ≤ (x74_3 : Int) := of_decide_eq_true (by first | (with_reducible assumption) | assumption)
                            have q105 : x74_3 < (l0_10.length : Int) := of_decide_eq_true (by first | (with_reducible assumption) | assumption)
                            obtain ⟨ad105, e105, hx105_0, hx105_1, hx105_2, hx105_3, hx105_4⟩ := at_T56 HR0_10.out x74_3 p105 q105
                            cases e105
                            replace hx105_0 := (HB.out.cell (World.block_lt_of_cell? w _ hx105_0)).trans hx105_0
                            replace hx105_1 := (HB.out.cell (World.block_lt_of_cell? w _ hx105_1)).trans hx105_1
                            replace hx105_2 := (HB.out.cell (World.block_lt_of_cell? w _ hx105_2)).trans hx105_2
                            replace hx105_3 := (HB.out.cell (World.block_lt_of_cell? w _ hx105_3)).trans hx105_3
                            replace hx105_4 := (HB.out.cell (World.block_lt_of_cell? w _ hx105_4)).trans hx105_4
                            replace p105 := eq_true p105
                            replace q105 := eq_true q105
                            go_wp2
                            repeat (go_quiet (fail); try go_wp2)
                            go_roundg k3
                            case measure => have := HK1.out; have := HK2.out; have := HK3.out; omega
                            case rel => exact ⟨(wrap64 (x3_3 + (((rd_T56 l0_10 x74_3).f0).size : Int))), (wrap64 (x74_3 + 1)), (by first | rfl | (simp; done) | (simp [*]; done)), (by first | rfl | (simp; done) | (simp [*]; done)), H', ⟨by have := HK1.out; have := HK2.out; have := HK3.out; omega⟩, ⟨by (with_reducible repeat (first | refine blk_drewN ?_ _ | refine blk_drew ?_ | refine blk_alloc ?_ _)); exact BK101.out⟩, ⟨by repeat (first | (with_reducible first | exact HB.out | apply below_alloc | apply pw_below_drewN | apply below_drew1 | refine below_set ?_ GE101.out) | exact HB.out)⟩⟩
                        · rw [if_neg c23] at H
                          exact absurd H (by simp)
                      · rw [if_neg c22] at H
                        exact absurd H (by simp)
                    · rw [if_neg c21] at H
                      have c21b0 : decide (x74_3 < (l0_10.length : Int)) = false := decide_eq_false c21
                      clear c21
                      obtain rfl := Option.some.inj H
                      go_wp2
                      repeat (go_quiet (fail); try go_wp2)
                      go_ret
                      exact ⟨by first | rfl | (simp [errW_none, errW_some] <;> rfl) | (simp [*, errW_none, errW_some] <;> rfl), by repeat (first | (with_reducible first | exact HB.out | apply below_alloc | apply pw_below_drewN | apply below_drew1 | refine below_set ?_ GE101.out) | exact HB.out)⟩

end Go.Proofs.Ytdjompbhlkgmbaa.PMsg
end
section
/- What the reference's printed Great computes (own text; written by wip/tools/gen_msggreat.py). -/
namespace Go.Proofs.Ytdjompbhlkgmbaa.Msg
open Go.RowKit Go.Proofs.YtdjompbhlkgmbaaW.PrintWords Go.Proofs.YtdjompbhlkgmbaaW.PrintLast Go.Proofs.YtdjompbhlkgmbaaW.PrintMore Go.Proofs.Ytdjompbhlkgmbaa.PMsg
set_option linter.unusedVariables false
set_option linter.unusedSimpArgs false
/-- A message that came in: its numbers in their types' bounds, its texts and lists in the machine's reach. -/
structure OkM (m : M) : Prop where
  kind : isB m.kind 255
  fr : isB m.fr 255
  dst : isB m.dst 255
  id : isB m.id 4294967295
  tg : isB m.tg 255
  rg : isB m.rg 255
  n1 : m.news.length ≤ 140737488351232
  n2 : m.keys.length ≤ 140737488351232
  n3 : m.recs.length ≤ 140737488351232
  n4 : m.seen.length ≤ 140737488351232
  n5 : m.digs.length ≤ 140737488351232
  news : ∀ x, x ∈ m.news → isB x.f0 255 ∧ isB x.f1.f0 255 ∧ isB x.f1.f1 4294967295
  keys : ∀ x, x ∈ m.keys → x.size ≤ 140737488351232
  recs : ∀ x, x ∈ m.recs → (x.f0.size ≤ 140737488351232 ∧ x.f5.size ≤ 140737488351232) ∧ (0 ≤ x.f1.f0 ∧ x.f1.f0 ≤ 18446744073709551615) ∧ (0 ≤ x.f1.f1 ∧ x.f1.f1 ≤ 4294967295) ∧ (0 ≤ x.f1.f2 ∧ x.f1.f2 ≤ 255) ∧ (0 ≤ x.f2 ∧ x.f2 ≤ 255) ∧ (0 ≤ x.f3 ∧ x.f3 ≤ 4294967295) ∧ (0 ≤ x.f4 ∧ x.f4 ≤ 18446744073709551615)
  seen : ∀ x, x ∈ m.seen → x.f0.size ≤ 140737488351232 ∧ isB x.f1.f0 18446744073709551615 ∧ isB x.f1.f1 4294967295 ∧ isB x.f1.f2 255 ∧ isB x.f2 255
  digs : ∀ x, x ∈ m.digs → isB x 18446744073709551615
theorem loopG {α : Type} (l : List α) (g : α → Nat) (F : Nat → Nat → Nat → Option Bool) (G : Nat → Nat → Option Bool)
    (hs : ∀ k n i (h : i < l.length), n ≤ 9000 → F (k + 1) n i = if n + g l[i] > 9000 then some true else F k (n + g l[i]) (i + 1)) (he : ∀ k n, F (k + 1) n l.length = G k n) :
    ∀ d k n i, i + d = l.length → n ≤ 9000 → F (k + d + 1) n i = if n + ((l.drop i).map g).sum > 9000 then some true else G k (n + ((l.drop i).map g).sum)
  | 0, k, n, i, hi, hn => by
    obtain rfl : i = l.length := by omega
    rw [List.drop_length, List.map_nil, List.sum_nil, if_neg (by omega)]
    exact he k n
  | d + 1, k, n, i, hi, hn => by
    have h : i < l.length := by omega
    rw [show k + (d + 1) + 1 = (k + d + 1) + 1 from by omega, hs _ n i h hn, List.drop_eq_getElem_cons h, List.map_cons, List.sum_cons]
    by_cases hb : n + g l[i] > 9000
    · rw [if_pos hb, if_pos (by omega)]
    · rw [if_neg hb, loopG l g F G hs he d k (n + g l[i]) (i + 1) (by omega) (by omega), Nat.add_assoc]
theorem wi2 (i : Nat) (h : i < 1000000000000000) : wrap64 ((i : Int) + 1) = ((i + 1 : Nat) : Int) := by
  rw [IntWalk.wrap64_in _ (by omega)]
  omega
theorem wadd (a b : Nat) (h : a + b ≤ 9223372036854775807) : wrap64 ((a : Int) + (b : Int)) = ((a + b : Nat) : Int) := by
  rw [IntWalk.wrap64_in _ (by omega)]
  omega
theorem gstep0 (m : M) (hs : OkM m) (k n : Nat) (i : Nat) (h : i < m.keys.length) (hn9 : n ≤ 9000) :
    tattlerref22_Great.l0 (k + 1) (n : Int) (m.keys.length : Int) (i : Int) m.kind m.fr m.dst m.id m.tg m.rg m.flag m.news m.keys m.recs m.seen m.digs = if n + m.keys[i].size > 9000 then some true else tattlerref22_Great.l0 k ((n + m.keys[i].size : Nat) : Int) (m.keys.length : Int) ((i + 1 : Nat) : Int) m.kind m.fr m.dst m.id m.tg m.rg m.flag m.news m.keys m.recs m.seen m.digs := by
  have hn := hs.n2
  have e0 : rdOf ByteArray.empty m.keys (i : Int) = m.keys[i] := by
    unfold rdOf
    rw [Int.toNat_natCast, List.getD_eq_getElem?_getD, List.getElem?_eq_getElem h]
    rfl
  simp only [tattlerref22_Great.l0]
  rw [if_pos (by omega), if_pos (by omega), if_pos (by omega)]
  simp only [e0]
  have hr := hs.keys _ (List.getElem_mem h)
  generalize m.keys[i] = x at *
  rw [wadd n x.size (by omega)]
  by_cases hb : n + x.size > 9000
  · rw [if_pos hb, if_pos (by omega)]
  · rw [if_neg hb, if_neg (by omega), wi2 i (by omega)]
theorem gend0 (m : M) (k n : Nat) : tattlerref22_Great.l0 (k + 1) (n : Int) (m.keys.length : Int) (m.keys.length : Int) m.kind m.fr m.dst m.id m.tg m.rg m.flag m.news m.keys m.recs m.seen m.digs = tattlerref22_Great.l1 k (n : Int) (m.recs.length : Int) ((0 : Nat) : Int) m.kind m.fr m.dst m.id m.tg m.rg m.flag m.news m.keys m.recs m.seen m.digs := by
  simp only [tattlerref22_Great.l0]
  rw [if_neg (by omega)]
  rfl
theorem gstep1 (m : M) (hs : OkM m) (k n : Nat) (i : Nat) (h : i < m.recs.length) (hn9 : n ≤ 9000) :
    tattlerref22_Great.l1 (k + 1) (n : Int) (m.recs.length : Int) (i : Int) m.kind m.fr m.dst m.id m.tg m.rg m.flag m.news m.keys m.recs m.seen m.digs = if n + (m.recs[i].f0.size + m.recs[i].f5.size) > 9000 then some true else tattlerref22_Great.l1 k ((n + (m.recs[i].f0.size + m.recs[i].f5.size) : Nat) : Int) (m.recs.length : Int) ((i + 1 : Nat) : Int) m.kind m.fr m.dst m.id m.tg m.rg m.flag m.news m.keys m.recs m.seen m.digs := by
  have hn := hs.n3
  have e0 : rd_T54 m.recs (i : Int) = m.recs[i] := by
    unfold rd_T54
    rw [Int.toNat_natCast, List.getD_eq_getElem?_getD, List.getElem?_eq_getElem h]
    rfl
  simp only [tattlerref22_Great.l1]
  rw [if_pos (by omega), if_pos (by omega), if_pos (by omega)]
  simp only [e0]
  have hr := hs.recs _ (List.getElem_mem h)
  generalize m.recs[i] = x at *
  rw [wadd x.f0.size x.f5.size (by omega), wadd n (x.f0.size + x.f5.size) (by omega)]
  by_cases hb : n + (x.f0.size + x.f5.size) > 9000
  · rw [if_pos hb, if_pos (by omega)]
  · rw [if_neg hb, if_neg (by omega), wi2 i (by omega)]
theorem gend1 (m : M) (k n : Nat) : tattlerref22_Great.l1 (k + 1) (n : Int) (m.recs.length : Int) (m.recs.length : Int) m.kind m.fr m.dst m.id m.tg m.rg m.flag m.news m.keys m.recs m.seen m.digs = tattlerref22_Great.l2 k (n : Int) (m.seen.length : Int) ((0 : Nat) : Int) m.kind m.fr m.dst m.id m.tg m.rg m.flag m.news m.keys m.recs m.seen m.digs := by
  simp only [tattlerref22_Great.l1]
  rw [if_neg (by omega)]
  rfl
theorem gstep2 (m : M) (hs : OkM m) (k n : Nat) (i : Nat) (h : i < m.seen.length) (hn9 : n ≤ 9000) :
    tattlerref22_Great.l2 (k + 1) (n : Int) (m.seen.length : Int) (i : Int) m.kind m.fr m.dst m.id m.tg m.rg m.flag m.news m.keys m.recs m.seen m.digs = if n + m.seen[i].f0.size > 9000 then some true else tattlerref22_Great.l2 k ((n + m.seen[i].f0.size : Nat) : Int) (m.seen.length : Int) ((i + 1 : Nat) : Int) m.kind m.fr m.dst m.id m.tg m.rg m.flag m.news m.keys m.recs m.seen m.digs := by
  have hn := hs.n4
  have e0 : rd_T56 m.seen (i : Int) = m.seen[i] := by
    unfold rd_T56
    rw [Int.toNat_natCast, List.getD_eq_getElem?_getD, List.getElem?_eq_getElem h]
    rfl
  simp only [tattlerref22_Great.l2]
  rw [if_pos (by omega), if_pos (by omega), if_pos (by omega)]
  simp only [e0]
  have hr := hs.seen _ (List.getElem_mem h)
  generalize m.seen[i] = x at *
  rw [wadd n x.f0.size (by omega)]
  by_cases hb : n + x.f0.size > 9000
  · rw [if_pos hb, if_pos (by omega)]
  · rw [if_neg hb, if_neg (by omega), wi2 i (by omega)]
theorem gend2 (m : M) (k n : Nat) : tattlerref22_Great.l2 (k + 1) (n : Int) (m.seen.length : Int) (m.seen.length : Int) m.kind m.fr m.dst m.id m.tg m.rg m.flag m.news m.keys m.recs m.seen m.digs = some false := by
  simp only [tattlerref22_Great.l2]
  rw [if_neg (by omega)]
def totN (m : M) : Nat := m.news.length + m.keys.length + m.recs.length + m.seen.length + m.digs.length
def totB (m : M) : Nat := (((totN m) + (m.keys.map fun x => x.size).sum) + (m.recs.map fun x => x.f0.size + x.f5.size).sum) + (m.seen.map fun x => x.f0.size).sum
def greatM (m : M) : Bool := if totN m > 5000 then true else if totB m > 9000 then true else false
theorem great_is (m : M) (hs : OkM m) (k : Nat) (hk : m.keys.length + m.recs.length + m.seen.length + 10 ≤ k) : tattlerref22_Great.f k m.kind m.fr m.dst m.id m.tg m.rg m.flag m.news m.keys m.recs m.seen m.digs = some (greatM m) := by
  have h1 := hs.n1
  have h2 := hs.n2
  have h3 := hs.n3
  have h4 := hs.n4
  have h5 := hs.n5
  obtain ⟨k, rfl⟩ : ∃ q, k = ((q + m.seen.length + 1) + m.recs.length + 1) + m.keys.length + 1 := ⟨k - (m.keys.length + m.recs.length + m.seen.length + 3), by omega⟩
  unfold tattlerref22_Great.f greatM totB
  rw [wadd m.news.length m.keys.length (by omega), wadd _ m.recs.length (by omega), wadd _ m.seen.length (by omega), wadd _ m.digs.length (by omega), show m.news.length + m.keys.length + m.recs.length + m.seen.length + m.digs.length = totN m from rfl]
  by_cases c : totN m > 5000
  · rw [if_pos (by omega), if_pos c]
  rw [if_neg (by omega), if_neg c]
  have L0 := loopG m.keys (fun x => x.size) (fun k n i => tattlerref22_Great.l0 k (n : Int) (m.keys.length : Int) (i : Int) m.kind m.fr m.dst m.id m.tg m.rg m.flag m.news m.keys m.recs m.seen m.digs) (fun k n => tattlerref22_Great.l1 k (n : Int) (m.recs.length : Int) ((0 : Nat) : Int) m.kind m.fr m.dst m.id m.tg m.rg m.flag m.news m.keys m.recs m.seen m.digs) (fun k n i h hn => gstep0 m hs k n i h hn) (fun k n => gend0 m k n) m.keys.length
  rw [show (0 : Int) = ((0 : Nat) : Int) from rfl, L0 _ _ 0 (by omega) (by omega), List.drop_zero]
  by_cases d0 : totN m + (m.keys.map fun x => x.size).sum > 9000
  · rw [if_pos d0, if_pos (by omega)]
  rw [if_neg d0]
  have L1 := loopG m.recs (fun x => x.f0.size + x.f5.size) (fun k n i => tattlerref22_Great.l1 k (n : Int) (m.recs.length : Int) (i : Int) m.kind m.fr m.dst m.id m.tg m.rg m.flag m.news m.keys m.recs m.seen m.digs) (fun k n => tattlerref22_Great.l2 k (n : Int) (m.seen.length : Int) ((0 : Nat) : Int) m.kind m.fr m.dst m.id m.tg m.rg m.flag m.news m.keys m.recs m.seen m.digs) (fun k n i h hn => gstep1 m hs k n i h hn) (fun k n => gend1 m k n) m.recs.length
  rw [L1 _ _ 0 (by omega) (by omega), List.drop_zero]
  by_cases d1 : (totN m + (m.keys.map fun x => x.size).sum) + (m.recs.map fun x => x.f0.size + x.f5.size).sum > 9000
  · rw [if_pos d1, if_pos (by omega)]
  rw [if_neg d1]
  have L2 := loopG m.seen (fun x => x.f0.size) (fun k n i => tattlerref22_Great.l2 k (n : Int) (m.seen.length : Int) (i : Int) m.kind m.fr m.dst m.id m.tg m.rg m.flag m.news m.keys m.recs m.seen m.digs) (fun _ _ => some false) (fun k n i h hn => gstep2 m hs k n i h hn) (fun k n => gend2 m k n) m.seen.length
  rw [L2 _ _ 0 (by omega) (by omega), List.drop_zero]
  by_cases d2 : ((totN m + (m.keys.map fun x => x.size).sum) + (m.recs.map fun x => x.f0.size + x.f5.size).sum) + (m.seen.map fun x => x.f0.size).sum > 9000
  · rw [if_pos d2, if_pos (by omega)]
  rw [if_neg d2]
  rw [if_neg (by omega)]
theorem sum_mem {α : Type} (g : α → Nat) (l : List α) (x : α) (h : x ∈ l) : g x ≤ (l.map g).sum := by
  induction l with
  | nil => cases h
  | cons y l ih =>
    rw [List.map_cons, List.sum_cons]
    rcases List.mem_cons.1 h with e | e
    · rw [e]; omega
    · have := ih e; omega
theorem sm_of (m : M) (hs : OkM m) (h : greatM m = false) : SmM m := by
  have hb : totN m ≤ 5000 ∧ totB m ≤ 9000 := by
    unfold greatM at h
    by_cases c : totN m > 5000
    · rw [if_pos c] at h; cases h
    rw [if_neg c] at h
    by_cases d : totB m > 9000
    · rw [if_pos d] at h; cases h
    exact ⟨by omega, by omega⟩
  obtain ⟨h1, h2⟩ := hb
  have h3 := h1
  unfold totB at h2
  unfold totN at h3
  exact ⟨hs.kind, hs.fr, hs.dst, hs.id, hs.tg, hs.rg, by omega, by omega, by omega, by omega, by omega, by omega, by omega, by omega, hs.news,
    fun x hx => by have := sum_mem (fun x => x.size) m.keys x hx; omega,
    fun x hx => ⟨by have := sum_mem (fun x : S54 => x.f0.size + x.f5.size) m.recs x hx; omega, (hs.recs x hx).2⟩,
    fun x hx => ⟨by have := sum_mem (fun x : S56 => x.f0.size) m.seen x hx; omega, (hs.seen x hx).2⟩, hs.digs⟩
end Go.Proofs.Ytdjompbhlkgmbaa.Msg
end
section
namespace Go.Proofs.Ytdjompbhlkgmbaa.PMsg
open Go.RowKit Go.Proofs.YtdjompbhlkgmbaaW.PrintWords Go.Proofs.YtdjompbhlkgmbaaW.PrintLast Go.Proofs.YtdjompbhlkgmbaaW.PrintMore
attribute [local go_sem] max2_int min2_int max_two min_two max_three min_three max_four min_four   -- for this text's walks alone
set_option linter.unusedVariables false
set_option linter.unusedSimpArgs false

theorem eqA52 (d : Nat) (w : World) (x0 y0 : Int) (x1 y1 : Int) (x2 y2 : Int) :
    (Op.equalIn (d + 2) 52 (.agg #[.int .u64 x0, .int .u32 x1, .int .u8 x2]) (.agg #[.int .u64 y0, .int .u32 y1, .int .u8 y2])).run Try.prog w = .ok (x0 == y0 && (x1 == y1 && (x2 == y2))) w := by
  refine eqA_of Try.underlying52 (by kernel_rfl) ?_
  refine eqf_cons (by rfl) (by go_simp; rfl) (by go_simp; rfl) (by go_simp) ?_
  refine eqf_cons (by rfl) (by go_simp; rfl) (by go_simp; rfl) (by go_simp) ?_
  exact eqf_last (by rfl) (by go_simp; rfl) (by go_simp; rfl) (by go_simp)
theorem eqA54 (d : Nat) (w : World) (x0 y0 : ByteArray) (x1 y1 : Int) (x2 y2 : Int) (x3 y3 : Int) (x4 y4 : Int) (x5 y5 : Int) (x6 y6 : Int) (x7 y7 : ByteArray) :
    (Op.equalIn (d + 3) 54 (.agg #[.string x0, .int .u64 x1, .int .u32 x2, .int .u8 x3, .int .u8 x4, .int .u32 x5, .int .u64 x6, .string x7]) (.agg #[.string y0, .int .u64 y1, .int .u32 y2, .int .u8 y3, .int .u8 y4, .int .u32 y5, .int .u64 y6, .string y7])).run Try.prog w = .ok (x0.toList == y0.toList && ((x1 == y1 && (x2 == y2 && (x3 == y3))) && (x4 == y4 && (x5 == y5 && (x6 == y6 && (x7.toList == y7.toList)))))) w := by
  refine eqA_of Try.underlying54 (by kernel_rfl) ?_
  refine eqf_cons (by rfl) (by go_simp; rfl) (by go_simp; rfl) (by go_simp) ?_
  refine eqf_cons (by rfl) (by go_simp) (by go_simp) (eqA52 (d + 0) w _ _ _ _ _ _) ?_
  refine eqf_cons (by rfl) (by go_simp; rfl) (by go_simp; rfl) (by go_simp) ?_
  refine eqf_cons (by rfl) (by go_simp; rfl) (by go_simp; rfl) (by go_simp) ?_
  refine eqf_cons (by rfl) (by go_simp; rfl) (by go_simp; rfl) (by go_simp) ?_
  exact eqf_last (by rfl) (by go_simp; rfl) (by go_simp; rfl) (by go_simp)
end Go.Proofs.Ytdjompbhlkgmbaa.PMsg
end
section
namespace Go.Proofs.Ytdjompbhlkgmbaa.PMsg
open Go.RowKit Go.Proofs.YtdjompbhlkgmbaaW.PrintWords Go.Proofs.YtdjompbhlkgmbaaW.PrintLast Go.Proofs.YtdjompbhlkgmbaaW.PrintMore
attribute [local go_sem] max2_int min2_int max_two min_two max_three min_three max_four min_four   -- for this text's walks alone
set_option linter.unusedVariables false
set_option linter.unusedSimpArgs false

theorem eqA56 (d : Nat) (w : World) (x0 y0 : ByteArray) (x1 y1 : Int) (x2 y2 : Int) (x3 y3 : Int) (x4 y4 : Int) :
    (Op.equalIn (d + 3) 56 (.agg #[.string x0, .int .u64 x1, .int .u32 x2, .int .u8 x3, .int .u8 x4]) (.agg #[.string y0, .int .u64 y1, .int .u32 y2, .int .u8 y3, .int .u8 y4])).run Try.prog w = .ok (x0.toList == y0.toList && ((x1 == y1 && (x2 == y2 && (x3 == y3))) && (x4 == y4))) w := by
  refine eqA_of Try.underlying56 (by kernel_rfl) ?_
  refine eqf_cons (by rfl) (by go_simp; rfl) (by go_simp; rfl) (by go_simp) ?_
  refine eqf_cons (by rfl) (by go_simp) (by go_simp) (eqA52 (d + 0) w _ _ _ _ _ _) ?_
  exact eqf_last (by rfl) (by go_simp; rfl) (by go_simp; rfl) (by go_simp)
end Go.Proofs.Ytdjompbhlkgmbaa.PMsg
end
section
namespace Go.Proofs.Ytdjompbhlkgmbaa.PMsg
open Go.RowKit Go.Proofs.YtdjompbhlkgmbaaW.PrintWords Go.Proofs.YtdjompbhlkgmbaaW.PrintLast Go.Proofs.YtdjompbhlkgmbaaW.PrintMore
attribute [local go_sem] max2_int min2_int max_two min_two max_three min_three max_four min_four   -- for this text's walks alone
set_option linter.unusedVariables false
set_option linter.unusedSimpArgs false

theorem eqA70 (d : Nat) (w : World) (x0 y0 : Int) (x1 y1 : Int) :
    (Op.equalIn (d + 2) 70 (.agg #[.int .u8 x0, .int .u32 x1]) (.agg #[.int .u8 y0, .int .u32 y1])).run Try.prog w = .ok (x0 == y0 && (x1 == y1)) w := by
  refine eqA_of Try.underlying70 (by kernel_rfl) ?_
  refine eqf_cons (by rfl) (by go_simp; rfl) (by go_simp; rfl) (by go_simp) ?_
  exact eqf_last (by rfl) (by go_simp; rfl) (by go_simp; rfl) (by go_simp)
theorem eqA72 (d : Nat) (w : World) (x0 y0 : Int) (x1 y1 : Int) (x2 y2 : Int) :
    (Op.equalIn (d + 3) 72 (.agg #[.int .u8 x0, .int .u8 x1, .int .u32 x2]) (.agg #[.int .u8 y0, .int .u8 y1, .int .u32 y2])).run Try.prog w = .ok (x0 == y0 && ((x1 == y1 && (x2 == y2)))) w := by
  refine eqA_of Try.underlying72 (by kernel_rfl) ?_
  refine eqf_cons (by rfl) (by go_simp; rfl) (by go_simp; rfl) (by go_simp) ?_
  exact eqf_last (by rfl) (by go_simp) (by go_simp) (eqA70 (d + 0) w _ _ _ _)
end Go.Proofs.Ytdjompbhlkgmbaa.PMsg
end

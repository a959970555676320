/- What the row needs, laid together out of PMsgx7, MsgMay, MsgRNum, MsgList0 (own texts and texts printed for this seat; wip/tools/group.py). -/
import Derived.Test.YtdjompbhlkgmbaaGB3
import Derived.Test.YtdjompbhlkgmbaaGB4
import Derived.Test.YtdjompbhlkgmbaaGB5
import Derived.Test.YtdjompbhlkgmbaaGB6
import Derived.Handy
section
namespace Go.Proofs.Ytdjompbhlkgmbaa.PMsg
open Go.RowKit Go.Proofs.YtdjompbhlkgmbaaW.PrintWords Go.Proofs.YtdjompbhlkgmbaaW.PrintLast Go.Proofs.YtdjompbhlkgmbaaW.PrintMore
attribute [local go_sem] max2_int min2_int max_two min_two max_three min_three max_four min_four   -- for this text's walks alone
set_option linter.unusedVariables false
set_option linter.unusedSimpArgs false

/-! ### msg_mayNews: function 55 -/
def msg_mayNews.f (a0_0 : Int) (a0_1 : Int) (a0_2 : Int) : Option (Bool) := if a0_0 < 64 then (if a0_1 ≥ 1 then (some (decide (a0_1 ≤ 4))) else (some false)) else (some false)
set_option maxHeartbeats 8000000 in
set_option maxRecDepth 100000 in
theorem msg_mayNews.calls (a0_0 : Int) (a0_1 : Int) (a0_2 : Int) (r : Bool) (w : World) (h : msg_mayNews.f a0_0 a0_1 a0_2 = some r) :
    Calls Try.prog 55 #[.agg #[.int .u8 a0_0, .int .u8 a0_1, .int .u32 a0_2]] w fun e w' => e = .returned (.bool r) ∧ Below w.heap.size w w' := by
  have hu72 := Try.underlying72
  have HB := Aside0.mk (Below.refl w.heap.size w)
  have H : (if a0_0 < 64 then (if a0_1 ≥ 1 then (some (decide (a0_1 ≤ 4))) else (some false)) else (some false)) = some r := h
  clear h
  by_cases c2 : a0_0 < 64
  · rw [if_pos c2] at H
    have c2b0 : decide (a0_0 < 64) = true := decide_eq_true c2
    clear c2
    by_cases c3 : a0_1 ≥ 1
    · rw [if_pos c3] at H
      have c3b0 : decide (1 ≤ a0_1) = true := decide_eq_true c3
      clear c3
      obtain rfl := Option.some.inj H
      go_enter Try.func55, Try.ntmps55
      go_wp2_with (first | ((with_reducible refine gate_dst (N := 1) rfl ?_); refine box_event ?hg (N := 1) ?hd (cs := #[.int .u8 a0_0, .int .u8 a0_1, .int .u32 a0_2]) (t := 72) ?hr ?_; (case hd => rfl); (case hg => rfl); (case hr => first | (go_simp; done) | (go_simp; rfl)); intro gb118 hg w4 hbox hb; have n0_ := Aside0.mk (below_step (by repeat (first | (with_reducible first | exact HB.out | apply below_alloc | apply pw_below_drewN | apply below_drew1) | exact HB.out)) hb); have n1_ := Aside0.mk (hbox); have n2_ := Aside0.mk ((by rw [hg]; exact (below_size (by repeat (first | (with_reducible first | exact HB.out | apply below_alloc | apply pw_below_drewN | apply below_drew1) | exact HB.out))) : w.heap.size ≤ gb118)); have n3_ := Aside0.mk ((by rw [hg]; exact (below_size (by repeat (first | (with_reducible first | exact HB.out | apply below_alloc | apply pw_below_drewN | apply below_drew1) | exact HB.out))) : w.heap.size ≤ gb118)); clear HB; have HB := n0_; have BK118 := n1_; have GW118 := n2_; have GE118 := n3_; clear n0_ n1_ n2_ n3_; clear hb hbox hg; have hcz5_0 : w4.cell? ⟨gb118, 0, none⟩ = some (.int .u8 a0_0) := (blk_cell BK118.out 0).trans rfl; have hcz5_1 : w4.cell? ⟨gb118, 1, none⟩ = some (.int .u8 a0_1) := (blk_cell BK118.out 1).trans rfl; have hcz5_2 : w4.cell? ⟨gb118, 2, none⟩ = some (.int .u32 a0_2) := (blk_cell BK118.out 2).trans rfl; have hfz5_0 := blk_frozen BK118.out 0; have hfz5_1 := blk_frozen BK118.out 1; have hfz5_2 := blk_frozen BK118.out 2))
      go_ret
      exact ⟨by first | rfl | (simp [errW_none, errW_some] <;> rfl) | (simp [*, errW_none, errW_some] <;> rfl), by repeat (first | (with_reducible first | exact HB.out | apply below_alloc | apply pw_below_drewN | apply below_drew1 | refine below_set ?_ GE118.out) | exact HB.out)⟩
    · rw [if_neg c3] at H
      have c3b0 : decide (1 ≤ a0_1) = false := decide_eq_false c3
      clear c3
      obtain rfl := Option.some.inj H
      go_enter Try.func55, Try.ntmps55
      go_wp2_with (first | ((with_reducible refine gate_dst (N := 1) rfl ?_); refine box_event ?hg (N := 1) ?hd (cs := #[.int .u8 a0_0, .int .u8 a0_1, .int .u32 a0_2]) (t := 72) ?hr ?_; (case hd => rfl); (case hg => rfl); (case hr => first | (go_simp; done) | (go_simp; rfl)); intro gb118 hg w6 hbox hb; have n0_ := Aside0.mk (below_step (by repeat (first | (with_reducible first | exact HB.out | apply below_alloc | apply pw_below_drewN | apply below_drew1) | exact HB.out)) hb); have n1_ := Aside0.mk (hbox); have n2_ := Aside0.mk ((by rw [hg]; exact (below_size (by repeat (first | (with_reducible first | exact HB.out | apply below_alloc | apply pw_below_drewN | apply below_drew1) | exact HB.out))) : w.heap.size ≤ gb118)); have n3_ := Aside0.mk ((by rw [hg]; exact (below_size (by repeat (first | (with_reducible first | exact HB.out | apply below_alloc | apply pw_below_drewN | apply below_drew1) | exact HB.out))) : w.heap.size ≤ gb118)); clear HB; have HB := n0_; have BK118 := n1_; have GW118 := n2_; have GE118 := n3_; clear n0_ n1_ n2_ n3_; clear hb hbox hg; have hcz7_0 : w6.cell? ⟨gb118, 0, none⟩ = some (.int .u8 a0_0) := (blk_cell BK118.out 0).trans rfl; have hcz7_1 : w6.cell? ⟨gb118, 1, none⟩ = some (.int .u8 a0_1) := (blk_cell BK118.out 1).trans rfl; have hcz7_2 : w6.cell? ⟨gb118, 2, none⟩ = some (.int .u32 a0_2) := (blk_cell BK118.out 2).trans rfl; have hfz7_0 := blk_frozen BK118.out 0; have hfz7_1 := blk_frozen BK118.out 1; have hfz7_2 := blk_frozen BK118.out 2))
      go_ret
      exact ⟨by first | rfl | (simp [errW_none, errW_some] <;> rfl) | (simp [*, errW_none, errW_some] <;> rfl), by repeat (first | (with_reducible first | exact HB.out | apply below_alloc | apply pw_below_drewN | apply below_drew1 | refine below_set ?_ GE118.out) | exact HB.out)⟩
  · rw [if_neg c2] at H
    have c2b0 : decide (a0_0 < 64) = false := decide_eq_false c2
    clear c2
    obtain rfl := Option.some.inj H
    go_enter Try.func55, Try.ntmps55
    go_wp2_with (first | ((with_reducible refine gate_dst (N := 1) rfl ?_); refine box_event ?hg (N := 1) ?hd (cs := #[.int .u8 a0_0, .int .u8 a0_1, .int .u32 a0_2]) (t := 72) ?hr ?_; (case hd => rfl); (case hg => rfl); (case hr => first | (go_simp; done) | (go_simp; rfl)); intro gb118 hg w8 hbox hb; have n0_ := Aside0.mk (below_step (by repeat (first | (with_reducible first | exact HB.out | apply below_alloc | apply pw_below_drewN | apply below_drew1) | exact HB.out)) hb); have n1_ := Aside0.mk (hbox); have n2_ := Aside0.mk ((by rw [hg]; exact (below_size (by repeat (first | (with_reducible first | exact HB.out | apply below_alloc | apply pw_below_drewN | apply below_drew1) | exact HB.out))) : w.heap.size ≤ gb118)); have n3_ := Aside0.mk ((by rw [hg]; exact (below_size (by repeat (first | (with_reducible first | exact HB.out | apply below_alloc | apply pw_below_drewN | apply below_drew1) | exact HB.out))) : w.heap.size ≤ gb118)); clear HB; have HB := n0_; have BK118 := n1_; have GW118 := n2_; have GE118 := n3_; clear n0_ n1_ n2_ n3_; clear hb hbox hg; have hcz9_0 : w8.cell? ⟨gb118, 0, none⟩ = some (.int .u8 a0_0) := (blk_cell BK118.out 0).trans rfl; have hcz9_1 : w8.cell? ⟨gb118, 1, none⟩ = some (.int .u8 a0_1) := (blk_cell BK118.out 1).trans rfl; have hcz9_2 : w8.cell? ⟨gb118, 2, none⟩ = some (.int .u32 a0_2) := (blk_cell BK118.out 2).trans rfl; have hfz9_0 := blk_frozen BK118.out 0; have hfz9_1 := blk_frozen BK118.out 1; have hfz9_2 := blk_frozen BK118.out 2))
    go_ret
    exact ⟨by first | rfl | (simp [errW_none, errW_some] <;> rfl) | (simp [*, errW_none, errW_some] <;> rfl), by repeat (first | (with_reducible first | exact HB.out | apply below_alloc | apply pw_below_drewN | apply below_drew1 | refine below_set ?_ GE118.out) | exact HB.out)⟩

/-! ### rec_KeyMay: function 57 -/
-- NEEDS YtdjompbhlkgmbaaRecKey
def rec_KeyMay.f (a0 : ByteArray) : Option Bool := if a0.size ≤ 1000000 then some (Rec.keyMay a0) else none
theorem rec_KeyMay.calls (a0 : ByteArray) (r : Bool) (w : World) (h : rec_KeyMay.f a0 = some r) :
    Calls Try.prog 57 #[.string a0] w fun e w' => e = .returned (.bool r) ∧ Below w.heap.size w w' := by
  unfold rec_KeyMay.f at h
  split at h
  · rename_i hz
    have h3 := Option.some.inj h
    subst h3
    exact Rec.key_any a0 w hz
  · cases h

/-! ### msg_maySeen: function 61 -/
def msg_maySeen.f (a0_0 : ByteArray) (a0_1 : Int) (a0_2 : Int) (a0_3 : Int) (a0_4 : Int) : Option (Bool) := (rec_KeyMay.f a0_0).bind fun t120 => (if t120 = true then (if a0_1 ≤ 281474976710655 then (if a0_3 < 64 then (if a0_4 ≥ 1 then (some (decide (a0_4 ≤ 3))) else (some false)) else (some false)) else (some false)) else (some false))
set_option maxHeartbeats 8000000 in
set_option maxRecDepth 100000 in
theorem msg_maySeen.calls (a0_0 : ByteArray) (a0_1 : Int) (a0_2 : Int) (a0_3 : Int) (a0_4 : Int) (r : Bool) (w : World) (h : msg_maySeen.f a0_0 a0_1 a0_2 a0_3 a0_4 = some r) :
    Calls Try.prog 61 #[.agg #[.string a0_0, .int .u64 a0_1, .int .u32 a0_2, .int .u8 a0_3, .int .u8 a0_4]] w fun e w' => e = .returned (.bool r) ∧ Below w.heap.size w w' := by
  have hu56 := Try.underlying56
  have HB := Aside0.mk (Below.refl w.heap.size w)
  have H : ((rec_KeyMay.f a0_0).bind fun t120 => (if t120 = true then (if a0_1 ≤ 281474976710655 then (if a0_3 < 64 then (if a0_4 ≥ 1 then (some (decide (a0_4 ≤ 3))) else (some false)) else (some false)) else (some false)) else (some false))) = some r := h
  clear h
  replace H := Option.bind_eq_some_iff.mp H
  obtain ⟨t120, A20, H⟩ := H
  replace H : (if t120 = true then (if a0_1 ≤ 281474976710655 then (if a0_3 < 64 then (if a0_4 ≥ 1 then (some (decide (a0_4 ≤ 3))) else (some false)) else (some false)) else (some false)) else (some false)) = some r := H
  have A2 := Aside0.mk A20
  clear A20
  by_cases c3 : t120 = true
  · subst c3
    have H1 : (if a0_1 ≤ 281474976710655 then (if a0_3 < 64 then (if a0_4 ≥ 1 then (some (decide (a0_4 ≤ 3))) else (some false)) else (some false)) else (some false)) = some r := by rw [if_pos rfl] at H; exact H
    clear H
    have H := H1
    clear H1
    by_cases c4 : a0_1 ≤ 281474976710655
    · rw [if_pos c4] at H
      have c4b0 : decide (a0_1 ≤ 281474976710655) = true := decide_eq_true c4
      clear c4
      by_cases c5 : a0_3 < 64
      · rw [if_pos c5] at H
        have c5b0 : decide (a0_3 < 64) = true := decide_eq_true c5
        clear c5
        by_cases c6 : a0_4 ≥ 1
        · rw [if_pos c6] at H
          have c6b0 : decide (1 ≤ a0_4) = true := decide_eq_true c6
          clear c6
          obtain rfl := Option.some.inj H
          go_enter Try.func61, Try.ntmps61
          go_wp2_with (first | ((with_reducible refine gate_dst (N := 1) rfl ?_); refine box_event ?hg (N := 1) ?hd (cs := #[.string a0_0, .int .u64 a0_1, .int .u32 a0_2, .int .u8 a0_3, .int .u8 a0_4]) (t := 56) ?hr ?_; (case hd => rfl); (case hg => rfl); (case hr => first | (go_simp; done) | (go_simp; rfl)); intro gb119 hg w7 hbox hb; have n0_ := Aside0.mk (below_step (by repeat (first | (with_reducible first | exact HB.out | apply below_alloc | apply pw_below_drewN | apply below_drew1) | exact HB.out)) hb); have n1_ := Aside0.mk (hbox); have n2_ := Aside0.mk ((by rw [hg]; exact (below_size (by repeat (first | (with_reducible first | exact HB.out | apply below_alloc | apply pw_below_drewN | apply below_drew1) | exact HB.out))) : w.heap.size ≤ gb119)); have n3_ := Aside0.mk ((by rw [hg]; exact (below_size (by repeat (first | (with_reducible first | exact HB.out | apply below_alloc | apply pw_below_drewN | apply below_drew1) | exact HB.out))) : w.heap.size ≤ gb119)); clear HB; have HB := n0_; have BK119 := n1_; have GW119 := n2_; have GE119 := n3_; clear n0_ n1_ n2_ n3_; clear hb hbox hg; have hcz8_0 : w7.cell? ⟨gb119, 0, none⟩ = some (.string a0_0) := (blk_cell BK119.out 0).trans rfl; have hcz8_1 : w7.cell? ⟨gb119, 1, none⟩ = some (.int .u64 a0_1) := (blk_cell BK119.out 1).trans rfl; have hcz8_2 : w7.cell? ⟨gb119, 2, none⟩ = some (.int .u32 a0_2) := (blk_cell BK119.out 2).trans rfl; have hcz8_3 : w7.cell? ⟨gb119, 3, none⟩ = some (.int .u8 a0_3) := (blk_cell BK119.out 3).trans rfl; have hcz8_4 : w7.cell? ⟨gb119, 4, none⟩ = some (.int .u8 a0_4) := (blk_cell BK119.out 4).trans rfl; have hfz8_0 := blk_frozen BK119.out 0; have hfz8_1 := blk_frozen BK119.out 1; have hfz8_2 := blk_frozen BK119.out 2; have hfz8_3 := blk_frozen BK119.out 3; have hfz8_4 := blk_frozen BK119.out 4) | ((with_reducible refine gate_callee (f := 57) rfl ?_); refine goesL_ (some 5) rfl rfl Try.func57 (by kernel_rfl) rfl #[.string a0_0] rfl (by (try simp only [List.map_toArray, List.map_cons, List.map_nil]); first | done | rfl | (simp only [List.length_drop, List.length_take]; rfl)) ?_; (with_reducible refine (rec_KeyMay.calls a0_0 true _ A2.out).mono ?_); rintro e w9 ⟨rfl, hb⟩; refine ⟨_, rfl, ?_⟩; have n0_ := Aside0.mk (blk_below (g := gb119) (o := .cells #[.string a0_0, .int .u64 a0_1, .int .u32 a0_2, .int .u8 a0_3, .int .u8 a0_4] 56 (0, 0)) (by (with_reducible repeat (first | refine blk_drewN ?_ _ | refine blk_drew ?_ | refine blk_alloc ?_ _)); exact BK119.out) hb); have n1_ := Aside0.mk (below_step (by repeat (first | (with_reducible first | exact HB.out | apply below_alloc | apply pw_below_drewN | apply below_drew1 | refine below_set ?_ GE119.out) | exact HB.out)) hb); clear BK119; clear HB; have BK119 := n0_; have HB := n1_; clear n0_ n1_; (try clear hb); (try clear hb2); (try clear hk); (try clear hi); have hcz10_0 : w9.cell? ⟨gb119, 0, none⟩ = some (.string a0_0) := (blk_cell BK119.out 0).trans rfl; have hcz10_1 : w9.cell? ⟨gb119, 1, none⟩ = some (.int .u64 a0_1) := (blk_cell BK119.out 1).trans rfl; have hcz10_2 : w9.cell? ⟨gb119, 2, none⟩ = some (.int .u32 a0_2) := (blk_cell BK119.out 2).trans rfl; have hcz10_3 : w9.cell? ⟨gb119, 3, none⟩ = some (.int .u8 a0_3) := (blk_cell BK119.out 3).trans rfl; have hcz10_4 : w9.cell? ⟨gb119, 4, none⟩ = some (.int .u8 a0_4) := (blk_cell BK119.out 4).trans rfl; have hfz10_0 := blk_frozen BK119.out 0; have hfz10_1 := blk_frozen BK119.out 1; have hfz10_2 := blk_frozen BK119.out 2; have hfz10_3 := blk_frozen BK119.out 3; have hfz10_4 := blk_frozen BK119.out 4))
          go_ret
          exact ⟨by first | rfl | (simp [errW_none, errW_some] <;> rfl) | (simp [*, errW_none, errW_some] <;> rfl), by repeat (first | (with_reducible first | exact HB.out | apply below_alloc | apply pw_below_drewN | apply below_drew1 | refine below_set ?_ GE119.out) | exact HB.out)⟩
        · rw [if_neg c6] at H
          have c6b0 : decide (1 ≤ a0_4) = false := decide_eq_false c6
          clear c6
          obtain rfl := Option.some.inj H
          go_enter Try.func61, Try.ntmps61
          go_wp2_with (first | ((with_reducible refine gate_dst (N := 1) rfl ?_); refine box_event ?hg (N := 1) ?hd (cs := #[.string a0_0, .int .u64 a0_1, .int .u32 a0_2, .int .u8 a0_3, .int .u8 a0_4]) (t := 56) ?hr ?_; (case hd => rfl); (case hg => rfl); (case hr => first | (go_simp; done) | (go_simp; rfl)); intro gb119 hg w11 hbox hb; have n0_ := Aside0.mk (below_step (by repeat (first | (with_reducible first | exact HB.out | apply below_alloc | apply pw_below_drewN | apply below_drew1) | exact HB.out)) hb); have n1_ := Aside0.mk (hbox); have n2_ := Aside0.mk ((by rw [hg]; exact (below_size (by repeat (first | (with_reducible first | exact HB.out | apply below_alloc | apply pw_below_drewN | apply below_drew1) | exact HB.out))) : w.heap.size ≤ gb119)); have n3_ := Aside0.mk ((by rw [hg]; exact (below_size (by repeat (first | (with_reducible first | exact HB.out | apply below_alloc | apply pw_below_drewN | apply below_drew1) | exact HB.out))) : w.heap.size ≤ gb119)); clear HB; have HB := n0_; have BK119 := n1_; have GW119 := n2_; have GE119 := n3_; clear n0_ n1_ n2_ n3_; clear hb hbox hg; have hcz12_0 : w11.cell? ⟨gb119, 0, none⟩ = some (.string a0_0) := (blk_cell BK119.out 0).trans rfl; have hcz12_1 : w11.cell? ⟨gb119, 1, none⟩ = some (.int .u64 a0_1) := (blk_cell BK119.out 1).trans rfl; have hcz12_2 : w11.cell? ⟨gb119, 2, none⟩ = some (.int .u32 a0_2) := (blk_cell BK119.out 2).trans rfl; have hcz12_3 : w11.cell? ⟨gb119, 3, none⟩ = some (.int .u8 a0_3) := (blk_cell BK119.out 3).trans rfl; have hcz12_4 : w11.cell? ⟨gb119, 4, none⟩ = some (.int .u8 a0_4) := (blk_cell BK119.out 4).trans rfl; have hfz12_0 := blk_frozen BK119.out 0; have hfz12_1 := blk_frozen BK119.out 1; have hfz12_2 := blk_frozen BK119.out 2; have hfz12_3 := blk_frozen BK119.out 3; have hfz12_4 := blk_frozen BK119.out 4) | ((with_reducible refine gate_callee (f := 57) rfl ?_); refine goesL_ (some 5) rfl rfl Try.func57 (by kernel_rfl) rfl #[.string a0_0] rfl (by (try simp only [List.map_toArray, List.map_cons, List.map_nil]); first | done | rfl | (simp only [List.length_drop, List.length_take]; rfl)) ?_; (with_reducible refine (rec_KeyMay.calls a0_0 true _ A2.out).mono ?_); rintro e w13 ⟨rfl, hb⟩; refine ⟨_, rfl, ?_⟩; have n0_ := Aside0.mk (blk_below (g := gb119) (o := .cells #[.string a0_0, .int .u64 a0_1, .int .u32 a0_2, .int .u8 a0_3, .int .u8 a0_4] 56 (0, 0)) (by (with_reducible repeat (first | refine blk_drewN ?_ _ | refine blk_drew ?_ | refine blk_alloc ?_ _)); exact BK119.out) hb); have n1_ := Aside0.mk (below_step (by repeat (first | (with_reducible first | exact HB.out | apply below_alloc | apply pw_below_drewN | apply below_drew1 | refine below_set ?_ GE119.out) | exact HB.out)) hb); clear BK119; clear HB; have BK119 := n0_; have HB := n1_; clear n0_ n1_; (try clear hb); (try clear hb2); (try clear hk); (try clear hi); have hcz14_0 : w13.cell? ⟨gb119, 0, none⟩ = some (.string a0_0) := (blk_cell BK119.out 0).trans rfl; have hcz14_1 : w13.cell? ⟨gb119, 1, none⟩ = some (.int .u64 a0_1) := (blk_cell BK119.out 1).trans rfl; have hcz14_2 : w13.cell? ⟨gb119, 2, none⟩ = some (.int .u32 a0_2) := (blk_cell BK119.out 2).trans rfl; have hcz14_3 : w13.cell? ⟨gb119, 3, none⟩ = some (.int .u8 a0_3) := (blk_cell BK119.out 3).trans rfl; have hcz14_4 : w13.cell? ⟨gb119, 4, none⟩ = some (.int .u8 a0_4) := (blk_cell BK119.out 4).trans rfl; have hfz14_0 := blk_frozen BK119.out 0; have hfz14_1 := blk_frozen BK119.out 1; have hfz14_2 := blk_frozen BK119.out 2; have hfz14_3 := blk_frozen BK119.out 3; have hfz14_4 := blk_frozen BK119.out 4))
          go_ret
          exact ⟨by first | rfl | (simp [errW_none, errW_some] <;> rfl) | (simp [*, errW_none, errW_some] <;> rfl), by repeat (first | (with_reducible first | exact HB.out | apply below_alloc | apply pw_below_drewN | apply below_drew1 | refine below_set ?_ GE119.out) | exact HB.out)⟩
      · rw [if_neg c5] at H
        have c5b0 : decide (a0_3 < 64) = false := decide_eq_false c5
        clear c5
        obtain rfl := Option.some.inj H
        go_enter Try.func61, Try.ntmps61
        go_wp2_with (first | ((with_reducible refine gate_dst (N := 1) rfl ?_); refine box_event ?hg (N := 1) ?hd (cs := #[.string a0_0, .int .u64 a0_1, .int .u32 a0_2, .int .u8 a0_3, .int .u8 a0_4]) (t := 56) ?hr ?_; (case hd => rfl); (case hg => rfl); (case hr => first | (go_simp; done) | (go_simp; rfl)); intro gb119 hg w15 hbox hb; have n0_ := Aside0.mk (below_step (by repeat (first | (with_reducible first | exact HB.out | apply below_alloc | apply pw_below_drewN | apply below_drew1) | exact HB.out)) hb); have n1_ := Aside0.mk (hbox); have n2_ := Aside0.mk ((by rw [hg]; exact (below_size (by repeat (first | (with_reducible first | exact HB.out | apply below_alloc | apply pw_below_drewN | apply below_drew1) | exact HB.out))) : w.heap.size ≤ gb119)); have n3_ := Aside0.mk ((by rw [hg]; exact (below_size (by repeat (first | (with_reducible first | exact HB.out | apply below_alloc | apply pw_below_drewN | apply below_drew1) | exact HB.out))) : w.heap.size ≤ gb119)); clear HB; have HB := n0_; have BK119 := n1_; have GW119 := n2_; have GE119 := n3_; clear n0_ n1_ n2_ n3_; clear hb hbox hg; have hcz16_0 : w15.cell? ⟨gb119, 0, none⟩ = some (.string a0_0) := (blk_cell BK119.out 0).trans rfl; have hcz16_1 : w15.cell? ⟨gb119, 1, none⟩ = some (.int .u64 a0_1) := (blk_cell BK119.out 1).trans rfl; have hcz16_2 : w15.cell? ⟨gb119, 2, none⟩ = some (.int .u32 a0_2) := (blk_cell BK119.out 2).trans rfl; have hcz16_3 : w15.cell? ⟨gb119, 3, none⟩ = some (.int .u8 a0_3) := (blk_cell BK119.out 3).trans rfl; have hcz16_4 : w15.cell? ⟨gb119, 4, none⟩ = some (.int .u8 a0_4) := (blk_cell BK119.out 4).trans rfl; have hfz16_0 := blk_frozen BK119.out 0; have hfz16_1 := blk_frozen BK119.out 1; have hfz16_2 := blk_frozen BK119.out 2; have hfz16_3 := blk_frozen BK119.out 3; have hfz16_4 := blk_frozen BK119.out 4) | ((with_reducible refine gate_callee (f := 57) rfl ?_); refine goesL_ (some 5) rfl rfl Try.func57 (by kernel_rfl) rfl #[.string a0_0] rfl (by (try simp only [List.map_toArray, List.map_cons, List.map_nil]); first | done | rfl | (simp only [List.length_drop, List.length_take]; rfl)) ?_; (with_reducible refine (rec_KeyMay.calls a0_0 true _ A2.out).mono ?_); rintro e w17 ⟨rfl, hb⟩; refine ⟨_, rfl, ?_⟩; have n0_ := Aside0.mk (blk_below (g := gb119) (o := .cells #[.string a0_0, .int .u64 a0_1, .int .u32 a0_2, .int .u8 a0_3, .int .u8 a0_4] 56 (0, 0)) (by (with_reducible repeat (first | refine blk_drewN ?_ _ | refine blk_drew ?_ | refine blk_alloc ?_ _)); exact BK119.out) hb); have n1_ := Aside0.mk (below_step (by repeat (first | (with_reducible first | exact HB.out | apply below_alloc | apply pw_below_drewN | apply below_drew1 | refine below_set ?_ GE119.out) | exact HB.out)) hb); clear BK119; clear HB; have BK119 := n0_; have HB := n1_; clear n0_ n1_; (try clear hb); (try clear hb2); (try clear hk); (try clear hi); have hcz18_0 : w17.cell? ⟨gb119, 0, none⟩ = some (.string a0_0) := (blk_cell BK119.out 0).trans rfl; have hcz18_1 : w17.cell? ⟨gb119, 1, none⟩ = some (.int .u64 a0_1) := (blk_cell BK119.out 1).trans rfl; have hcz18_2 : w17.cell? ⟨gb119, 2, none⟩ = some (.int .u32 a0_2) := (blk_cell BK119.out 2).trans rfl; have hcz18_3 : w17.cell? ⟨gb119, 3, none⟩ = some (.int .u8 a0_3) := (blk_cell BK119.out 3).trans rfl; have hcz18_4 : w17.cell? ⟨gb119, 4, none⟩ = some (.int .u8 a0_4) := (blk_cell BK119.out 4).trans rfl; have hfz18_0 := blk_frozen BK119.out 0; have hfz18_1 := blk_frozen BK119.out 1; have hfz18_2 := blk_frozen BK119.out 2; have hfz18_3 := blk_frozen BK119.out 3; have hfz18_4 := blk_frozen BK119.out 4))
        go_ret
        exact ⟨by first | rfl | (simp [errW_none, errW_some] <;> rfl) | (simp [*, errW_none, errW_some] <;> rfl), by repeat (first | (with_reducible first | exact HB.out | apply below_alloc | apply pw_below_drewN | apply below_drew1 | refine below_set ?_ GE119.out) | exact HB.out)⟩
    · rw [if_neg c4] at H
      have c4b0 : decide (a0_1 ≤ 281474976710655) = false := decide_eq_false c4
      clear c4
      obtain rfl := Option.some.inj H
      go_enter Try.func61, Try.ntmps61
      go_wp2_with (first | ((with_reducible refine gate_dst (N := 1) rfl ?_); refine box_event ?hg (N := 1) ?hd (cs := #[.string a0_0, .int .u64 a0_1, .int .u32 a0_2, .int .u8 a0_3, .int .u8 a0_4]) (t := 56) ?hr ?_; (case hd => rfl); (case hg => rfl); (case hr => first | (go_simp; done) | (go_simp; rfl)); intro gb119 hg w19 hbox hb; have n0_ := Aside0.mk (below_step (by repeat (first | (with_reducible first | exact HB.out | apply below_alloc | apply pw_below_drewN | apply below_drew1) | exact HB.out)) hb); have n1_ := Aside0.mk (hbox); have n2_ := Aside0.mk ((by rw [hg]; exact (below_size (by repeat (first | (with_reducible first | exact HB.out | apply below_alloc | apply pw_below_drewN | apply below_drew1) | exact HB.out))) : w.heap.size ≤ gb119)); have n3_ := Aside0.mk ((by rw [hg]; exact (below_size (by repeat (first | (with_reducible first | exact HB.out | apply below_alloc | apply pw_below_drewN | apply below_drew1) | exact HB.out))) : w.heap.size ≤ gb119)); clear HB; have HB := n0_; have BK119 := n1_; have GW119 := n2_; have GE119 := n3_; clear n0_ n1_ n2_ n3_; clear hb hbox hg; have hcz20_0 : w19.cell? ⟨gb119, 0, none⟩ = some (.string a0_0) := (blk_cell BK119.out 0).trans rfl; have hcz20_1 : w19.cell? ⟨gb119, 1, none⟩ = some (.int .u64 a0_1) := (blk_cell BK119.out 1).trans rfl; have hcz20_2 : w19.cell? ⟨gb119, 2, none⟩ = some (.int .u32 a0_2) := (blk_cell BK119.out 2).trans rfl; have hcz20_3 : w19.cell? ⟨gb119, 3, none⟩ = some (.int .u8 a0_3) := (blk_cell BK119.out 3).trans rfl; have hcz20_4 : w19.cell? ⟨gb119, 4, none⟩ = some (.int .u8 a0_4) := (blk_cell BK119.out 4).trans rfl; have hfz20_0 := blk_frozen BK119.out 0; have hfz20_1 := blk_frozen BK119.out 1; have hfz20_2 := blk_frozen BK119.out 2; have hfz20_3 := blk_frozen BK119.out 3; have hfz20_4 := blk_frozen BK119.out 4) | ((with_reducible refine gate_callee (f := 57) rfl ?_); refine goesL_ (some 5) rfl rfl Try.func57 (by kernel_rfl) rfl #[.string a0_0] rfl (by (try simp only [List.map_toArray, List.map_cons, List.map_nil]); first | done | rfl | (simp only [List.length_drop, List.length_take]; rfl)) ?_; (with_reducible refine (rec_KeyMay.calls a0_0 true _ A2.out).mono ?_); rintro e w21 ⟨rfl, hb⟩; refine ⟨_, rfl, ?_⟩; have n0_ := Aside0.mk (blk_below (g := gb119) (o := .cells #[.string a0_0, .int .u64 a0_1, .int .u32 a0_2, .int .u8 a0_3, .int .u8 a0_4] 56 (0, 0)) (by (with_reducible repeat (first | refine blk_drewN ?_ _ | refine blk_drew ?_ | refine blk_alloc ?_ _)); exact BK119.out) hb); have n1_ := Aside0.mk (below_step (by repeat (first | (with_reducible first | exact HB.out | apply below_alloc | apply pw_below_drewN | apply below_drew1 | refine below_set ?_ GE119.out) | exact HB.out)) hb); clear BK119; clear HB; have BK119 := n0_; have HB := n1_; clear n0_ n1_; (try clear hb); (try clear hb2); (try clear hk); (try clear hi); have hcz22_0 : w21.cell? ⟨gb119, 0, none⟩ = some (.string a0_0) := (blk_cell BK119.out 0).trans rfl; have hcz22_1 : w21.cell? ⟨gb119, 1, none⟩ = some (.int .u64 a0_1) := (blk_cell BK119.out 1).trans rfl; have hcz22_2 : w21.cell? ⟨gb119, 2, none⟩ = some (.int .u32 a0_2) := (blk_cell BK119.out 2).trans rfl; have hcz22_3 : w21.cell? ⟨gb119, 3, none⟩ = some (.int .u8 a0_3) := (blk_cell BK119.out 3).trans rfl; have hcz22_4 : w21.cell? ⟨gb119, 4, none⟩ = some (.int .u8 a0_4) := (blk_cell BK119.out 4).trans rfl; have hfz22_0 := blk_frozen BK119.out 0; have hfz22_1 := blk_frozen BK119.out 1; have hfz22_2 := blk_frozen BK119.out 2; have hfz22_3 := blk_frozen BK119.out 3; have hfz22_4 := blk_frozen BK119.out 4))
      go_ret
      exact ⟨by first | rfl | (simp [errW_none, errW_some] <;> rfl) | (simp [*, errW_none, errW_some] <;> rfl), by repeat (first | (with_reducible first | exact HB.out | apply below_alloc | apply pw_below_drewN | apply below_drew1 | refine below_set ?_ GE119.out) | exact HB.out)⟩
  · replace c3 := Bool.eq_false_iff.mpr c3
    subst c3
    have H1 : (some false) = some r := by rw [if_neg (show ¬ (false = true) by decide)] at H; exact H
    clear H
    have H := H1
    clear H1
    obtain rfl := Option.some.inj H
    go_enter Try.func61, Try.ntmps61
    go_wp2_with (first | ((with_reducible refine gate_dst (N := 1) rfl ?_); refine box_event ?hg (N := 1) ?hd (cs := #[.string a0_0, .int .u64 a0_1, .int .u32 a0_2, .int .u8 a0_3, .int .u8 a0_4]) (t := 56) ?hr ?_; (case hd => rfl); (case hg => rfl); (case hr => first | (go_simp; done) | (go_simp; rfl)); intro gb119 hg w23 hbox hb; have n0_ := Aside0.mk (below_step (by repeat (first | (with_reducible first | exact HB.out | apply below_alloc | apply pw_below_drewN | apply below_drew1) | exact HB.out)) hb); have n1_ := Aside0.mk (hbox); have n2_ := Aside0.mk ((by rw [hg]; exact (below_size (by repeat (first | (with_reducible first | exact HB.out | apply below_alloc | apply pw_below_drewN | apply below_drew1) | exact HB.out))) : w.heap.size ≤ gb119)); have n3_ := Aside0.mk ((by rw [hg]; exact (below_size (by repeat (first | (with_reducible first | exact HB.out | apply below_alloc | apply pw_below_drewN | apply below_drew1) | exact HB.out))) : w.heap.size ≤ gb119)); clear HB; have HB := n0_; have BK119 := n1_; have GW119 := n2_; have GE119 := n3_; clear n0_ n1_ n2_ n3_; clear hb hbox hg; have hcz24_0 : w23.cell? ⟨gb119, 0, none⟩ = some (.string a0_0) := (blk_cell BK119.out 0).trans rfl; have hcz24_1 : w23.cell? ⟨gb119, 1, none⟩ = some (.int .u64 a0_1) := (blk_cell BK119.out 1).trans rfl; have hcz24_2 : w23.cell? ⟨gb119, 2, none⟩ = some (.int .u32 a0_2) := (blk_cell BK119.out 2).trans rfl; have hcz24_3 : w23.cell? ⟨gb119, 3, none⟩ = some (.int .u8 a0_3) := (blk_cell BK119.out 3).trans rfl; have hcz24_4 : w23.cell? ⟨gb119, 4, none⟩ = some (.int .u8 a0_4) := (blk_cell BK119.out 4).trans rfl; have hfz24_0 := blk_frozen BK119.out 0; have hfz24_1 := blk_frozen BK119.out 1; have hfz24_2 := blk_frozen BK119.out 2; have hfz24_3 := blk_frozen BK119.out 3; have hfz24_4 := blk_frozen BK119.out 4) | ((with_reducible refine gate_callee (f := 57) rfl ?_); refine goesL_ (some 5) rfl rfl Try.func57 (by kernel_rfl) rfl #[.string a0_0] rfl (by (try simp only [List.map_toArray, List.map_cons, List.map_nil]); first | done | rfl | (simp only [List.length_drop, List.length_take]; rfl)) ?_; (with_reducible refine (rec_KeyMay.calls a0_0 false _ A2.out).mono ?_); rintro e w25 ⟨rfl, hb⟩; refine ⟨_, rfl, ?_⟩; have n0_ := Aside0.mk (blk_below (g := gb119) (o := .cells #[.string a0_0, .int .u64 a0_1, .int .u32 a0_2, .int .u8 a0_3, .int .u8 a0_4] 56 (0, 0)) (by (with_reducible repeat (first | refine blk_drewN ?_ _ | refine blk_drew ?_ | refine blk_alloc ?_ _)); exact BK119.out) hb); have n1_ := Aside0.mk (below_step (by repeat (first | (with_reducible first | exact HB.out | apply below_alloc | apply pw_below_drewN | apply below_drew1 | refine below_set ?_ GE119.out) | exact HB.out)) hb); clear BK119; clear HB; have BK119 := n0_; have HB := n1_; clear n0_ n1_; (try clear hb); (try clear hb2); (try clear hk); (try clear hi)))
    go_ret
    exact ⟨by first | rfl | (simp [errW_none, errW_some] <;> rfl) | (simp [*, errW_none, errW_some] <;> rfl), by repeat (first | (with_reducible first | exact HB.out | apply below_alloc | apply pw_below_drewN | apply below_drew1 | refine below_set ?_ GE119.out) | exact HB.out)⟩

/-! ### tattlerref04_Four: function 67 -/

/-! ### tattlerref02_eight: function 88 -/

/-! ### tattlerref02_More: function 82 -/

/-! ### tattlerref02_Sum: function 68 -/

/-! ### tattlerref04_Encode: function 25 -/
-- NEEDS YtdjompbhlkgmbaaFrameRefD
/-! ### tattlerref03_Put: function 83 -/

/-! ### tattlerref22_put: function 69 -/
-- NEEDS YtdjompbhlkgmbaaMsgPut
/-! ### tattlerref03_Text: function 70 -/
-- NEEDS YtdjompbhlkgmbaaNumText
/-! ### tattlerref06_Put: function 71 -/
-- NEEDS YtdjompbhlkgmbaaRecPut
def putOk (a0 : ByteArray) (a1 a2 a3 a4 a5 a6 : Int) : Prop := a0.size ≤ 1000000 ∧ (0 ≤ a1 ∧ a1 ≤ 18446744073709551615) ∧ (0 ≤ a2 ∧ a2 ≤ 4294967295) ∧ (0 ≤ a3 ∧ a3 ≤ 255) ∧ (0 ≤ a4 ∧ a4 ≤ 255) ∧ (0 ≤ a5 ∧ a5 ≤ 4294967295) ∧ (0 ≤ a6 ∧ a6 ≤ 18446744073709551615)
instance (a0 : ByteArray) (a1 a2 a3 a4 a5 a6 : Int) : Decidable (putOk a0 a1 a2 a3 a4 a5 a6) := by unfold putOk; exact inferInstance
end Go.Proofs.Ytdjompbhlkgmbaa.PMsg
end
section
/- msg.may and msg.New (own text; written by wip/tools/gen_msgmay.py). -/
namespace Go.Proofs.Ytdjompbhlkgmbaa.Msg
open Go.RowKit Go.Proofs.YtdjompbhlkgmbaaW.PrintWords Go.Proofs.YtdjompbhlkgmbaaW.PrintLast Go.Proofs.YtdjompbhlkgmbaaW.PrintMore Go.Proofs.Ytdjompbhlkgmbaa.PMsg
set_option linter.unusedVariables false
set_option linter.unusedSimpArgs false
/-- A message. -/
structure M where
  kind : Int
  fr : Int
  dst : Int
  id : Int
  tg : Int
  rg : Int
  flag : Bool
  news : List S72
  keys : List ByteArray
  recs : List S54
  seen : List S56
  digs : List Int
/-- Its rows in memory. -/
structure HasM (m : M) (A7 : Option Addr) (g7 : Nat) (A8 : Option Addr) (g8 : Nat) (A9 : Option Addr) (g9 : Nat) (A10 : Option Addr) (g10 : Nat) (A11 : Option Addr) (g11 : Nat) (w : World) : Prop where
  r7 : Kd.C k72 w A7 m.news.length m.news
  l7 : m.news.length ≤ g7
  r8 : Kd.C Kd.string w A8 m.keys.length m.keys
  l8 : m.keys.length ≤ g8
  r9 : Kd.C k54 w A9 m.recs.length m.recs
  l9 : m.recs.length ≤ g9
  r10 : Kd.C k56 w A10 m.seen.length m.seen
  l10 : m.seen.length ≤ g10
  r11 : Kd.C (Kd.int .u64) w A11 m.digs.length m.digs
  l11 : m.digs.length ≤ g11
theorem HasM.below {m : M} {A7 A8 A9 A10 A11 : Option Addr} {g7 g8 g9 g10 g11 : Nat} {w w' : World} (h : HasM m A7 g7 A8 g8 A9 g9 A10 g10 A11 g11 w) (hb : Below w.heap.size w w') : HasM m A7 g7 A8 g8 A9 g9 A10 g10 A11 g11 w' :=
  ⟨Kd.C_below h.r7 hb, h.l7, Kd.C_below h.r8 hb, h.l8, Kd.C_below h.r9 hb, h.l9, Kd.C_below h.r10 hb, h.l10, Kd.C_below h.r11 hb, h.l11⟩
def isB (n : Int) (k : Int) : Prop := 0 ≤ n ∧ n ≤ k
/-- No number beyond its type, no text and no list beyond what is gone through. -/
structure SmM (m : M) : Prop where
  kind : isB m.kind 255
  fr : isB m.fr 255
  dst : isB m.dst 255
  id : isB m.id 4294967295
  tg : isB m.tg 255
  rg : isB m.rg 255
  zk : (m.keys.map fun x => x.size).sum ≤ 9000
  zr : (m.recs.map fun x => x.f0.size + x.f5.size).sum ≤ 9000
  zs : (m.seen.map fun x => x.f0.size).sum ≤ 9000
  n1 : m.news.length ≤ 5000
  n2 : m.keys.length ≤ 5000
  n3 : m.recs.length ≤ 5000
  n4 : m.seen.length ≤ 5000
  n5 : m.digs.length ≤ 5000
  news : ∀ x, x ∈ m.news → isB x.f0 255 ∧ isB x.f1.f0 255 ∧ isB x.f1.f1 4294967295
  keys : ∀ x, x ∈ m.keys → x.size ≤ 9000
  recs : ∀ x, x ∈ m.recs → (x.f0.size ≤ 9000 ∧ x.f5.size ≤ 9000) ∧ (0 ≤ x.f1.f0 ∧ x.f1.f0 ≤ 18446744073709551615) ∧ (0 ≤ x.f1.f1 ∧ x.f1.f1 ≤ 4294967295) ∧ (0 ≤ x.f1.f2 ∧ x.f1.f2 ≤ 255) ∧ (0 ≤ x.f2 ∧ x.f2 ≤ 255) ∧ (0 ≤ x.f3 ∧ x.f3 ≤ 4294967295) ∧ (0 ≤ x.f4 ∧ x.f4 ≤ 18446744073709551615)
  seen : ∀ x, x ∈ m.seen → x.f0.size ≤ 9000 ∧ isB x.f1.f0 18446744073709551615 ∧ isB x.f1.f1 4294967295 ∧ isB x.f1.f2 255 ∧ isB x.f2 255
  digs : ∀ x, x ∈ m.digs → isB x 18446744073709551615
def pN (x : S72) : Bool := if x.f0 < 64 then (if x.f1.f0 ≥ 1 then decide (x.f1.f0 ≤ 4) else false) else false
def pK (x : ByteArray) : Bool := Rec.keyMay x
def pR (x : S54) : Bool := Rec.mayR x.f0 x.f1.f0 x.f1.f2 x.f2 x.f3 x.f4 x.f5
def pS (x : S56) : Bool := if Rec.keyMay x.f0 = true then (if x.f1.f0 ≤ 281474976710655 then (if x.f1.f2 < 64 then (if x.f2 ≥ 1 then decide (x.f2 ≤ 3) else false) else false) else false) else false
theorem pN_c (x : S72) (W : World) : Calls Try.prog 55 #[.agg #[.int .u8 x.f0, .int .u8 x.f1.f0, .int .u32 x.f1.f1]] W fun e w' => e = .returned (.bool (pN x)) ∧ Below W.heap.size W w' := by
  refine msg_mayNews.calls _ _ _ _ W ?_
  unfold msg_mayNews.f pN
  repeat' split
  all_goals rfl
theorem pK_c (x : ByteArray) (W : World) (h : x.size ≤ 1000000) : Calls Try.prog 57 #[.string x] W fun e w' => e = .returned (.bool (pK x)) ∧ Below W.heap.size W w' := Rec.key_any x W h
theorem pR_c (x : S54) (W : World) (h : x.f0.size ≤ 1000000) : Calls Try.prog 59 #[.agg #[.string x.f0, .int .u64 x.f1.f0, .int .u32 x.f1.f1, .int .u8 x.f1.f2, .int .u8 x.f2, .int .u32 x.f3, .int .u64 x.f4, .string x.f5]] W fun e w' => e = .returned (.bool (pR x)) ∧ Below W.heap.size W w' := Rec.may_any _ _ _ _ _ _ _ _ W h
theorem pS_c (x : S56) (W : World) (h : x.f0.size ≤ 1000000) : Calls Try.prog 61 #[.agg #[.string x.f0, .int .u64 x.f1.f0, .int .u32 x.f1.f1, .int .u8 x.f1.f2, .int .u8 x.f2]] W fun e w' => e = .returned (.bool (pS x)) ∧ Below W.heap.size W w' := by
  refine msg_maySeen.calls _ _ _ _ _ _ W ?_
  unfold msg_maySeen.f pS rec_KeyMay.f
  rw [if_pos h]
  simp only [Option.bind_some]
  repeat' split
  all_goals rfl
def mayM (m : M) : Bool := if 1 ≤ m.kind then (if m.kind ≤ 14 then (if m.fr < 64 then (if m.dst < 64 then (if m.tg < 64 then (if m.rg < 64 then (if allB pN m.news = true then (if allB pK m.keys = true then (if allB pR m.recs = true then (if allB pS m.seen = true then decide ((m.digs.length : Int) ≤ 4096) else
  false) else
  false) else
  false) else
  false) else
  false) else
  false) else
  false) else
  false) else
  false) else
  false
set_option maxRecDepth 100000 in
set_option maxHeartbeats 4000000 in
theorem may_c_0 (m : M) (A7 : Option Addr) (g7 : Nat) (A8 : Option Addr) (g8 : Nat) (A9 : Option Addr) (g9 : Nat) (A10 : Option Addr) (g10 : Nat) (A11 : Option Addr) (g11 : Nat) (w : World) (hm : HasM m A7 g7 A8 g8 A9 g9 A10 g10 A11 g11 w) (hs : SmM m) (h0 : 1 ≤ m.kind) (h1 : m.kind ≤ 14) (h2 : m.fr < 64) (h3 : m.dst < 64) (h4 : m.tg < 64) (h5 : m.rg < 64) (h6 : allB pN m.news = true) (h7 : allB pK m.keys = true) (h8 : allB pR m.recs = true) (h9 : allB pS m.seen = true) :
    Calls Try.prog 18 #[.agg #[.int .u8 m.kind, .int .u8 m.fr, .int .u8 m.dst, .int .u32 m.id, .int .u8 m.tg, .int .u8 m.rg, .bool m.flag, .slice A7 m.news.length g7, .slice A8 m.keys.length g8, .slice A9 m.recs.length g9, .slice A10 m.seen.length g10, .slice A11 m.digs.length g11]] w fun e w' => e = .returned (.bool (decide ((m.digs.length : Int) ≤ 4096))) ∧ Below w.heap.size w w' := by
  have c0 : decide (1 ≤ m.kind) = true := decide_eq_true (by omega)
  have c1 : decide (m.kind ≤ 14) = true := decide_eq_true (by omega)
  have c2 : decide (m.fr < 64) = true := decide_eq_true (by omega)
  have c3 : decide (m.dst < 64) = true := decide_eq_true (by omega)
  have c4 : decide (m.tg < 64) = true := decide_eq_true (by omega)
  have c5 : decide (m.rg < 64) = true := decide_eq_true (by omega)
  have c6 : allB pN m.news = true := h6
  have c7 : allB pK m.keys = true := h7
  have c8 : allB pR m.recs = true := h8
  have c9 : allB pS m.seen = true := h9
  clear h0 h1 h2 h3 h4 h5 h6 h7 h8 h9
  have HB := Lib.hid (below_alloc (Below.refl w.heap.size w) (.cells #[.int .u8 m.kind, .int .u8 m.fr, .int .u8 m.dst, .int .u32 m.id, .int .u8 m.tg, .int .u8 m.rg, .bool m.flag, .slice A7 m.news.length g7, .slice A8 m.keys.length g8, .slice A9 m.recs.length g9, .slice A10 m.seen.length g10, .slice A11 m.digs.length g11] 29))
  have XN := Lib.hid (fun (W : World) (h : Below w.heap.size w W) => all72_c A7 g7 m.news W pN (hm.below h).r7 hm.l7 hs.n1 (fun x _ W => pN_c x W))
  rw [c6] at XN
  clear c6
  have XK := Lib.hid (fun (W : World) (h : Below w.heap.size w W) => allS_c A8 g8 m.keys W pK (hm.below h).r8 hm.l8 hs.n2 (fun x hx W => pK_c x W (by have := hs.keys x hx; omega)))
  rw [c7] at XK
  clear c7
  have XR := Lib.hid (fun (W : World) (h : Below w.heap.size w W) => all54_c A9 g9 m.recs W pR (hm.below h).r9 hm.l9 hs.n3 (fun x hx W => pR_c x W (by have := (hs.recs x hx).1.1; omega)))
  rw [c8] at XR
  clear c8
  have XS := Lib.hid (fun (W : World) (h : Below w.heap.size w W) => all56_c A10 g10 m.seen W pS (hm.below h).r10 hm.l10 hs.n4 (fun x hx W => pS_c x W (by have := (hs.seen x hx).1; omega)))
  rw [c9] at XS
  clear c9
  clear hm hs
  go_enter Try.func18, Try.ntmps18
  go_upto_region 1 with (fail)
  have AZ := Lib.hid (blk_new w (.cells #[.int .u8 m.kind, .int .u8 m.fr, .int .u8 m.dst, .int .u32 m.id, .int .u8 m.tg, .int .u8 m.rg, .bool m.flag, .slice A7 m.news.length g7, .slice A8 m.keys.length g8, .slice A9 m.recs.length g9, .slice A10 m.seen.length g10, .slice A11 m.digs.length g11] 29))
  generalize w.alloc (.cells #[.int .u8 m.kind, .int .u8 m.fr, .int .u8 m.dst, .int .u32 m.id, .int .u8 m.tg, .int .u8 m.rg, .bool m.flag, .slice A7 m.news.length g7, .slice A8 m.keys.length g8, .slice A9 m.recs.length g9, .slice A10 m.seen.length g10, .slice A11 m.digs.length g11] 29) = w1 at *
  have ez0 : w1.cell? ⟨w.heap.size, 0, none⟩ = some (.int .u8 m.kind) := (blk_cell AZ.out 0).trans rfl
  have ez1 : w1.cell? ⟨w.heap.size, 1, none⟩ = some (.int .u8 m.fr) := (blk_cell AZ.out 1).trans rfl
  have ez2 : w1.cell? ⟨w.heap.size, 2, none⟩ = some (.int .u8 m.dst) := (blk_cell AZ.out 2).trans rfl
  have ez4 : w1.cell? ⟨w.heap.size, 4, none⟩ = some (.int .u8 m.tg) := (blk_cell AZ.out 4).trans rfl
  have ez5 : w1.cell? ⟨w.heap.size, 5, none⟩ = some (.int .u8 m.rg) := (blk_cell AZ.out 5).trans rfl
  have ez7 : w1.cell? ⟨w.heap.size, 7, none⟩ = some (.slice A7 m.news.length g7) := (blk_cell AZ.out 7).trans rfl
  have ez8 : w1.cell? ⟨w.heap.size, 8, none⟩ = some (.slice A8 m.keys.length g8) := (blk_cell AZ.out 8).trans rfl
  have ez9 : w1.cell? ⟨w.heap.size, 9, none⟩ = some (.slice A9 m.recs.length g9) := (blk_cell AZ.out 9).trans rfl
  have ez10 : w1.cell? ⟨w.heap.size, 10, none⟩ = some (.slice A10 m.seen.length g10) := (blk_cell AZ.out 10).trans rfl
  have ez11 : w1.cell? ⟨w.heap.size, 11, none⟩ = some (.slice A11 m.digs.length g11) := (blk_cell AZ.out 11).trans rfl
  go_wp2_with (first
    | (go_at_call 54; (with_reducible refine (XN.out _ HB.out).mono ?_); rintro e w12 ⟨rfl, hb0⟩; have HB1 := Lib.hid (below_step HB.out hb0); have AZ1 := Lib.hid (blk_below AZ.out hb0); have ex8 : w12.cell? ⟨w.heap.size, 8, none⟩ = some (.slice A8 m.keys.length g8) := (blk_cell AZ1.out 8).trans rfl; clear hb0 XN)
    | (go_at_call 56; (with_reducible refine (XK.out _ HB1.out).mono ?_); rintro e w13 ⟨rfl, hb1⟩; have HB2 := Lib.hid (below_step HB1.out hb1); have AZ2 := Lib.hid (blk_below AZ1.out hb1); have ex9 : w13.cell? ⟨w.heap.size, 9, none⟩ = some (.slice A9 m.recs.length g9) := (blk_cell AZ2.out 9).trans rfl; clear hb1 XK)
    | (go_at_call 58; (with_reducible refine (XR.out _ HB2.out).mono ?_); rintro e w14 ⟨rfl, hb2⟩; have HB3 := Lib.hid (below_step HB2.out hb2); have AZ3 := Lib.hid (blk_below AZ2.out hb2); have ex10 : w14.cell? ⟨w.heap.size, 10, none⟩ = some (.slice A10 m.seen.length g10) := (blk_cell AZ3.out 10).trans rfl; clear hb2 XR)
    | (go_at_call 60; (with_reducible refine (XS.out _ HB3.out).mono ?_); rintro e w15 ⟨rfl, hb3⟩; have HB4 := Lib.hid (below_step HB3.out hb3); have AZ4 := Lib.hid (blk_below AZ3.out hb3); have ex11 : w15.cell? ⟨w.heap.size, 11, none⟩ = some (.slice A11 m.digs.length g11) := (blk_cell AZ4.out 11).trans rfl; clear hb3 XS))
  go_ret
  exact ⟨rfl, HB4.out⟩
set_option maxRecDepth 100000 in
set_option maxHeartbeats 4000000 in
theorem may_c_1 (m : M) (A7 : Option Addr) (g7 : Nat) (A8 : Option Addr) (g8 : Nat) (A9 : Option Addr) (g9 : Nat) (A10 : Option Addr) (g10 : Nat) (A11 : Option Addr) (g11 : Nat) (w : World) (hm : HasM m A7 g7 A8 g8 A9 g9 A10 g10 A11 g11 w) (hs : SmM m) (h0 : 1 ≤ m.kind) (h1 : m.kind ≤ 14) (h2 : m.fr < 64) (h3 : m.dst < 64) (h4 : m.tg < 64) (h5 : m.rg < 64) (h6 : allB pN m.news = true) (h7 : allB pK m.keys = true) (h8 : allB pR m.recs = true) (h9 : ¬ (allB pS m.seen = true)) :
    Calls Try.prog 18 #[.agg #[.int .u8 m.kind, .int .u8 m.fr, .int .u8 m.dst, .int .u32 m.id, .int .u8 m.tg, .int .u8 m.rg, .bool m.flag, .slice A7 m.news.length g7, .slice A8 m.keys.length g8, .slice A9 m.recs.length g9, .slice A10 m.seen.length g10, .slice A11 m.digs.length g11]] w fun e w' => e = .returned (.bool (false)) ∧ Below w.heap.size w w' := by
  have c0 : decide (1 ≤ m.kind) = true := decide_eq_true (by omega)
  have c1 : decide (m.kind ≤ 14) = true := decide_eq_true (by omega)
  have c2 : decide (m.fr < 64) = true := decide_eq_true (by omega)
  have c3 : decide (m.dst < 64) = true := decide_eq_true (by omega)
  have c4 : decide (m.tg < 64) = true := decide_eq_true (by omega)
  have c5 : decide (m.rg < 64) = true := decide_eq_true (by omega)
  have c6 : allB pN m.news = true := h6
  have c7 : allB pK m.keys = true := h7
  have c8 : allB pR m.recs = true := h8
  have c9 : allB pS m.seen = false := by simpa using h9
  clear h0 h1 h2 h3 h4 h5 h6 h7 h8 h9
  have HB := Lib.hid (below_alloc (Below.refl w.heap.size w) (.cells #[.int .u8 m.kind, .int .u8 m.fr, .int .u8 m.dst, .int .u32 m.id, .int .u8 m.tg, .int .u8 m.rg, .bool m.flag, .slice A7 m.news.length g7, .slice A8 m.keys.length g8, .slice A9 m.recs.length g9, .slice A10 m.seen.length g10, .slice A11 m.digs.length g11] 29))
  have XN := Lib.hid (fun (W : World) (h : Below w.heap.size w W) => all72_c A7 g7 m.news W pN (hm.below h).r7 hm.l7 hs.n1 (fun x _ W => pN_c x W))
  rw [c6] at XN
  clear c6
  have XK := Lib.hid (fun (W : World) (h : Below w.heap.size w W) => allS_c A8 g8 m.keys W pK (hm.below h).r8 hm.l8 hs.n2 (fun x hx W => pK_c x W (by have := hs.keys x hx; omega)))
  rw [c7] at XK
  clear c7
  have XR := Lib.hid (fun (W : World) (h : Below w.heap.size w W) => all54_c A9 g9 m.recs W pR (hm.below h).r9 hm.l9 hs.n3 (fun x hx W => pR_c x W (by have := (hs.recs x hx).1.1; omega)))
  rw [c8] at XR
  clear c8
  have XS := Lib.hid (fun (W : World) (h : Below w.heap.size w W) => all56_c A10 g10 m.seen W pS (hm.below h).r10 hm.l10 hs.n4 (fun x hx W => pS_c x W (by have := (hs.seen x hx).1; omega)))
  rw [c9] at XS
  clear c9
  clear hm hs
  go_enter Try.func18, Try.ntmps18
  go_upto_region 1 with (fail)
  have AZ := Lib.hid (blk_new w (.cells #[.int .u8 m.kind, .int .u8 m.fr, .int .u8 m.dst, .int .u32 m.id, .int .u8 m.tg, .int .u8 m.rg, .bool m.flag, .slice A7 m.news.length g7, .slice A8 m.keys.length g8, .slice A9 m.recs.length g9, .slice A10 m.seen.length g10, .slice A11 m.digs.length g11] 29))
  generalize w.alloc (.cells #[.int .u8 m.kind, .int .u8 m.fr, .int .u8 m.dst, .int .u32 m.id, .int .u8 m.tg, .int .u8 m.rg, .bool m.flag, .slice A7 m.news.length g7, .slice A8 m.keys.length g8, .slice A9 m.recs.length g9, .slice A10 m.seen.length g10, .slice A11 m.digs.length g11] 29) = w1 at *
  have ez0 : w1.cell? ⟨w.heap.size, 0, none⟩ = some (.int .u8 m.kind) := (blk_cell AZ.out 0).trans rfl
  have ez1 : w1.cell? ⟨w.heap.size, 1, none⟩ = some (.int .u8 m.fr) := (blk_cell AZ.out 1).trans rfl
  have ez2 : w1.cell? ⟨w.heap.size, 2, none⟩ = some (.int .u8 m.dst) := (blk_cell AZ.out 2).trans rfl
  have ez4 : w1.cell? ⟨w.heap.size, 4, none⟩ = some (.int .u8 m.tg) := (blk_cell AZ.out 4).trans rfl
  have ez5 : w1.cell? ⟨w.heap.size, 5, none⟩ = some (.int .u8 m.rg) := (blk_cell AZ.out 5).trans rfl
  have ez7 : w1.cell? ⟨w.heap.size, 7, none⟩ = some (.slice A7 m.news.length g7) := (blk_cell AZ.out 7).trans rfl
  have ez8 : w1.cell? ⟨w.heap.size, 8, none⟩ = some (.slice A8 m.keys.length g8) := (blk_cell AZ.out 8).trans rfl
  have ez9 : w1.cell? ⟨w.heap.size, 9, none⟩ = some (.slice A9 m.recs.length g9) := (blk_cell AZ.out 9).trans rfl
  have ez10 : w1.cell? ⟨w.heap.size, 10, none⟩ = some (.slice A10 m.seen.length g10) := (blk_cell AZ.out 10).trans rfl
  have ez11 : w1.cell? ⟨w.heap.size, 11, none⟩ = some (.slice A11 m.digs.length g11) := (blk_cell AZ.out 11).trans rfl
  go_wp2_with (first
    | (go_at_call 54; (with_reducible refine (XN.out _ HB.out).mono ?_); rintro e w12 ⟨rfl, hb0⟩; have HB1 := Lib.hid (below_step HB.out hb0); have AZ1 := Lib.hid (blk_below AZ.out hb0); have ex8 : w12.cell? ⟨w.heap.size, 8, none⟩ = some (.slice A8 m.keys.length g8) := (blk_cell AZ1.out 8).trans rfl; clear hb0 XN)
    | (go_at_call 56; (with_reducible refine (XK.out _ HB1.out).mono ?_); rintro e w13 ⟨rfl, hb1⟩; have HB2 := Lib.hid (below_step HB1.out hb1); have AZ2 := Lib.hid (blk_below AZ1.out hb1); have ex9 : w13.cell? ⟨w.heap.size, 9, none⟩ = some (.slice A9 m.recs.length g9) := (blk_cell AZ2.out 9).trans rfl; clear hb1 XK)
    | (go_at_call 58; (with_reducible refine (XR.out _ HB2.out).mono ?_); rintro e w14 ⟨rfl, hb2⟩; have HB3 := Lib.hid (below_step HB2.out hb2); have AZ3 := Lib.hid (blk_below AZ2.out hb2); have ex10 : w14.cell? ⟨w.heap.size, 10, none⟩ = some (.slice A10 m.seen.length g10) := (blk_cell AZ3.out 10).trans rfl; clear hb2 XR)
    | (go_at_call 60; (with_reducible refine (XS.out _ HB3.out).mono ?_); rintro e w15 ⟨rfl, hb3⟩; have HB4 := Lib.hid (below_step HB3.out hb3); have AZ4 := Lib.hid (blk_below AZ3.out hb3); have ex11 : w15.cell? ⟨w.heap.size, 11, none⟩ = some (.slice A11 m.digs.length g11) := (blk_cell AZ4.out 11).trans rfl; clear hb3 XS))
  go_ret
  exact ⟨rfl, HB4.out⟩
set_option maxRecDepth 100000 in
set_option maxHeartbeats 4000000 in
theorem may_c_2 (m : M) (A7 : Option Addr) (g7 : Nat) (A8 : Option Addr) (g8 : Nat) (A9 : Option Addr) (g9 : Nat) (A10 : Option Addr) (g10 : Nat) (A11 : Option Addr) (g11 : Nat) (w : World) (hm : HasM m A7 g7 A8 g8 A9 g9 A10 g10 A11 g11 w) (hs : SmM m) (h0 : 1 ≤ m.kind) (h1 : m.kind ≤ 14) (h2 : m.fr < 64) (h3 : m.dst < 64) (h4 : m.tg < 64) (h5 : m.rg < 64) (h6 : allB pN m.news = true) (h7 : allB pK m.keys = true) (h8 : ¬ (allB pR m.recs = true)) :
    Calls Try.prog 18 #[.agg #[.int .u8 m.kind, .int .u8 m.fr, .int .u8 m.dst, .int .u32 m.id, .int .u8 m.tg, .int .u8 m.rg, .bool m.flag, .slice A7 m.news.length g7, .slice A8 m.keys.length g8, .slice A9 m.recs.length g9, .slice A10 m.seen.length g10, .slice A11 m.digs.length g11]] w fun e w' => e = .returned (.bool (false)) ∧ Below w.heap.size w w' := by
  have c0 : decide (1 ≤ m.kind) = true := decide_eq_true (by omega)
  have c1 : decide (m.kind ≤ 14) = true := decide_eq_true (by omega)
  have c2 : decide (m.fr < 64) = true := decide_eq_true (by omega)
  have c3 : decide (m.dst < 64) = true := decide_eq_true (by omega)
  have c4 : decide (m.tg < 64) = true := decide_eq_true (by omega)
  have c5 : decide (m.rg < 64) = true := decide_eq_true (by omega)
  have c6 : allB pN m.news = true := h6
  have c7 : allB pK m.keys = true := h7
  have c8 : allB pR m.recs = false := by simpa using h8
  clear h0 h1 h2 h3 h4 h5 h6 h7 h8
  have HB := Lib.hid (below_alloc (Below.refl w.heap.size w) (.cells #[.int .u8 m.kind, .int .u8 m.fr, .int .u8 m.dst, .int .u32 m.id, .int .u8 m.tg, .int .u8 m.rg, .bool m.flag, .slice A7 m.news.length g7, .slice A8 m.keys.length g8, .slice A9 m.recs.length g9, .slice A10 m.seen.length g10, .slice A11 m.digs.length g11] 29))
  have XN := Lib.hid (fun (W : World) (h : Below w.heap.size w W) => all72_c A7 g7 m.news W pN (hm.below h).r7 hm.l7 hs.n1 (fun x _ W => pN_c x W))
  rw [c6] at XN
  clear c6
  have XK := Lib.hid (fun (W : World) (h : Below w.heap.size w W) => allS_c A8 g8 m.keys W pK (hm.below h).r8 hm.l8 hs.n2 (fun x hx W => pK_c x W (by have := hs.keys x hx; omega)))
  rw [c7] at XK
  clear c7
  have XR := Lib.hid (fun (W : World) (h : Below w.heap.size w W) => all54_c A9 g9 m.recs W pR (hm.below h).r9 hm.l9 hs.n3 (fun x hx W => pR_c x W (by have := (hs.recs x hx).1.1; omega)))
  rw [c8] at XR
  clear c8
  clear hm hs
  go_enter Try.func18, Try.ntmps18
  go_upto_region 1 with (fail)
  have AZ := Lib.hid (blk_new w (.cells #[.int .u8 m.kind, .int .u8 m.fr, .int .u8 m.dst, .int .u32 m.id, .int .u8 m.tg, .int .u8 m.rg, .bool m.flag, .slice A7 m.news.length g7, .slice A8 m.keys.length g8, .slice A9 m.recs.length g9, .slice A10 m.seen.length g10, .slice A11 m.digs.length g11] 29))
  generalize w.alloc (.cells #[.int .u8 m.kind, .int .u8 m.fr, .int .u8 m.dst, .int .u32 m.id, .int .u8 m.tg, .int .u8 m.rg, .bool m.flag, .slice A7 m.news.length g7, .slice A8 m.keys.length g8, .slice A9 m.recs.length g9, .slice A10 m.seen.length g10, .slice A11 m.digs.length g11] 29) = w1 at *
  have ez0 : w1.cell? ⟨w.heap.size, 0, none⟩ = some (.int .u8 m.kind) := (blk_cell AZ.out 0).trans rfl
  have ez1 : w1.cell? ⟨w.heap.size, 1, none⟩ = some (.int .u8 m.fr) := (blk_cell AZ.out 1).trans rfl
  have ez2 : w1.cell? ⟨w.heap.size, 2, none⟩ = some (.int .u8 m.dst) := (blk_cell AZ.out 2).trans rfl
  have ez4 : w1.cell? ⟨w.heap.size, 4, none⟩ = some (.int .u8 m.tg) := (blk_cell AZ.out 4).trans rfl
  have ez5 : w1.cell? ⟨w.heap.size, 5, none⟩ = some (.int .u8 m.rg) := (blk_cell AZ.out 5).trans rfl
  have ez7 : w1.cell? ⟨w.heap.size, 7, none⟩ = some (.slice A7 m.news.length g7) := (blk_cell AZ.out 7).trans rfl
  have ez8 : w1.cell? ⟨w.heap.size, 8, none⟩ = some (.slice A8 m.keys.length g8) := (blk_cell AZ.out 8).trans rfl
  have ez9 : w1.cell? ⟨w.heap.size, 9, none⟩ = some (.slice A9 m.recs.length g9) := (blk_cell AZ.out 9).trans rfl
  have ez10 : w1.cell? ⟨w.heap.size, 10, none⟩ = some (.slice A10 m.seen.length g10) := (blk_cell AZ.out 10).trans rfl
  have ez11 : w1.cell? ⟨w.heap.size, 11, none⟩ = some (.slice A11 m.digs.length g11) := (blk_cell AZ.out 11).trans rfl
  go_wp2_with (first
    | (go_at_call 54; (with_reducible refine (XN.out _ HB.out).mono ?_); rintro e w12 ⟨rfl, hb0⟩; have HB1 := Lib.hid (below_step HB.out hb0); have AZ1 := Lib.hid (blk_below AZ.out hb0); have ex8 : w12.cell? ⟨w.heap.size, 8, none⟩ = some (.slice A8 m.keys.length g8) := (blk_cell AZ1.out 8).trans rfl; clear hb0 XN)
    | (go_at_call 56; (with_reducible refine (XK.out _ HB1.out).mono ?_); rintro e w13 ⟨rfl, hb1⟩; have HB2 := Lib.hid (below_step HB1.out hb1); have AZ2 := Lib.hid (blk_below AZ1.out hb1); have ex9 : w13.cell? ⟨w.heap.size, 9, none⟩ = some (.slice A9 m.recs.length g9) := (blk_cell AZ2.out 9).trans rfl; clear hb1 XK)
    | (go_at_call 58; (with_reducible refine (XR.out _ HB2.out).mono ?_); rintro e w14 ⟨rfl, hb2⟩; have HB3 := Lib.hid (below_step HB2.out hb2); have AZ3 := Lib.hid (blk_below AZ2.out hb2); have ex10 : w14.cell? ⟨w.heap.size, 10, none⟩ = some (.slice A10 m.seen.length g10) := (blk_cell AZ3.out 10).trans rfl; clear hb2 XR))
  go_ret
  exact ⟨rfl, HB3.out⟩
set_option maxRecDepth 100000 in
set_option maxHeartbeats 4000000 in
theorem may_c_3 (m : M) (A7 : Option Addr) (g7 : Nat) (A8 : Option Addr) (g8 : Nat) (A9 : Option Addr) (g9 : Nat) (A10 : Option Addr) (g10 : Nat) (A11 : Option Addr) (g11 : Nat) (w : World) (hm : HasM m A7 g7 A8 g8 A9 g9 A10 g10 A11 g11 w) (hs : SmM m) (h0 : 1 ≤ m.kind) (h1 : m.kind ≤ 14) (h2 : m.fr < 64) (h3 : m.dst < 64) (h4 : m.tg < 64) (h5 : m.rg < 64) (h6 : allB pN m.news = true) (h7 : ¬ (allB pK m.keys = true)) :
    Calls Try.prog 18 #[.agg #[.int .u8 m.kind, .int .u8 m.fr, .int .u8 m.dst, .int .u32 m.id, .int .u8 m.tg, .int .u8 m.rg, .bool m.flag, .slice A7 m.news.length g7, .slice A8 m.keys.length g8, .slice A9 m.recs.length g9, .slice A10 m.seen.length g10, .slice A11 m.digs.length g11]] w fun e w' => e = .returned (.bool (false)) ∧ Below w.heap.size w w' := by
  have c0 : decide (1 ≤ m.kind) = true := decide_eq_true (by omega)
  have c1 : decide (m.kind ≤ 14) = true := decide_eq_true (by omega)
  have c2 : decide (m.fr < 64) = true := decide_eq_true (by omega)
  have c3 : decide (m.dst < 64) = true := decide_eq_true (by omega)
  have c4 : decide (m.tg < 64) = true := decide_eq_true (by omega)
  have c5 : decide (m.rg < 64) = true := decide_eq_true (by omega)
  have c6 : allB pN m.news = true := h6
  have c7 : allB pK m.keys = false := by simpa using h7
  clear h0 h1 h2 h3 h4 h5 h6 h7
  have HB := Lib.hid (below_alloc (Below.refl w.heap.size w) (.cells #[.int .u8 m.kind, .int .u8 m.fr, .int .u8 m.dst, .int .u32 m.id, .int .u8 m.tg, .int .u8 m.rg, .bool m.flag, .slice A7 m.news.length g7, .slice A8 m.keys.length g8, .slice A9 m.recs.length g9, .slice A10 m.seen.length g10, .slice A11 m.digs.length g11] 29))
  have XN := Lib.hid (fun (W : World) (h : Below w.heap.size w W) => all72_c A7 g7 m.news W pN (hm.below h).r7 hm.l7 hs.n1 (fun x _ W => pN_c x W))
  rw [c6] at XN
  clear c6
  have XK := Lib.hid (fun (W : World) (h : Below w.heap.size w W) => allS_c A8 g8 m.keys W pK (hm.below h).r8 hm.l8 hs.n2 (fun x hx W => pK_c x W (by have := hs.keys x hx; omega)))
  rw [c7] at XK
  clear c7
  clear hm hs
  go_enter Try.func18, Try.ntmps18
  go_upto_region 1 with (fail)
  have AZ := Lib.hid (blk_new w (.cells #[.int .u8 m.kind, .int .u8 m.fr, .int .u8 m.dst, .int .u32 m.id, .int .u8 m.tg, .int .u8 m.rg, .bool m.flag, .slice A7 m.news.length g7, .slice A8 m.keys.length g8, .slice A9 m.recs.length g9, .slice A10 m.seen.length g10, .slice A11 m.digs.length g11] 29))
  generalize w.alloc (.cells #[.int .u8 m.kind, .int .u8 m.fr, .int .u8 m.dst, .int .u32 m.id, .int .u8 m.tg, .int .u8 m.rg, .bool m.flag, .slice A7 m.news.length g7, .slice A8 m.keys.length g8, .slice A9 m.recs.length g9, .slice A10 m.seen.length g10, .slice A11 m.digs.length g11] 29) = w1 at *
  have ez0 : w1.cell? ⟨w.heap.size, 0, none⟩ = some (.int .u8 m.kind) := (blk_cell AZ.out 0).trans rfl
  have ez1 : w1.cell? ⟨w.heap.size, 1, none⟩ = some (.int .u8 m.fr) := (blk_cell AZ.out 1).trans rfl
  have ez2 : w1.cell? ⟨w.heap.size, 2, none⟩ = some (.int .u8 m.dst) := (blk_cell AZ.out 2).trans rfl
  have ez4 : w1.cell? ⟨w.heap.size, 4, none⟩ = some (.int .u8 m.tg) := (blk_cell AZ.out 4).trans rfl
  have ez5 : w1.cell? ⟨w.heap.size, 5, none⟩ = some (.int .u8 m.rg) := (blk_cell AZ.out 5).trans rfl
  have ez7 : w1.cell? ⟨w.heap.size, 7, none⟩ = some (.slice A7 m.news.length g7) := (blk_cell AZ.out 7).trans rfl
  have ez8 : w1.cell? ⟨w.heap.size, 8, none⟩ = some (.slice A8 m.keys.length g8) := (blk_cell AZ.out 8).trans rfl
  have ez9 : w1.cell? ⟨w.heap.size, 9, none⟩ = some (.slice A9 m.recs.length g9) := (blk_cell AZ.out 9).trans rfl
  have ez10 : w1.cell? ⟨w.heap.size, 10, none⟩ = some (.slice A10 m.seen.length g10) := (blk_cell AZ.out 10).trans rfl
  have ez11 : w1.cell? ⟨w.heap.size, 11, none⟩ = some (.slice A11 m.digs.length g11) := (blk_cell AZ.out 11).trans rfl
  go_wp2_with (first
    | (go_at_call 54; (with_reducible refine (XN.out _ HB.out).mono ?_); rintro e w12 ⟨rfl, hb0⟩; have HB1 := Lib.hid (below_step HB.out hb0); have AZ1 := Lib.hid (blk_below AZ.out hb0); have ex8 : w12.cell? ⟨w.heap.size, 8, none⟩ = some (.slice A8 m.keys.length g8) := (blk_cell AZ1.out 8).trans rfl; clear hb0 XN)
    | (go_at_call 56; (with_reducible refine (XK.out _ HB1.out).mono ?_); rintro e w13 ⟨rfl, hb1⟩; have HB2 := Lib.hid (below_step HB1.out hb1); have AZ2 := Lib.hid (blk_below AZ1.out hb1); have ex9 : w13.cell? ⟨w.heap.size, 9, none⟩ = some (.slice A9 m.recs.length g9) := (blk_cell AZ2.out 9).trans rfl; clear hb1 XK))
  go_ret
  exact ⟨rfl, HB2.out⟩
set_option maxRecDepth 100000 in
set_option maxHeartbeats 4000000 in
theorem may_c_4 (m : M) (A7 : Option Addr) (g7 : Nat) (A8 : Option Addr) (g8 : Nat) (A9 : Option Addr) (g9 : Nat) (A10 : Option Addr) (g10 : Nat) (A11 : Option Addr) (g11 : Nat) (w : World) (hm : HasM m A7 g7 A8 g8 A9 g9 A10 g10 A11 g11 w) (hs : SmM m) (h0 : 1 ≤ m.kind) (h1 : m.kind ≤ 14) (h2 : m.fr < 64) (h3 : m.dst < 64) (h4 : m.tg < 64) (h5 : m.rg < 64) (h6 : ¬ (allB pN m.news = true)) :
    Calls Try.prog 18 #[.agg #[.int .u8 m.kind, .int .u8 m.fr, .int .u8 m.dst, .int .u32 m.id, .int .u8 m.tg, .int .u8 m.rg, .bool m.flag, .slice A7 m.news.length g7, .slice A8 m.keys.length g8, .slice A9 m.recs.length g9, .slice A10 m.seen.length g10, .slice A11 m.digs.length g11]] w fun e w' => e = .returned (.bool (false)) ∧ Below w.heap.size w w' := by
  have c0 : decide (1 ≤ m.kind) = true := decide_eq_true (by omega)
  have c1 : decide (m.kind ≤ 14) = true := decide_eq_true (by omega)
  have c2 : decide (m.fr < 64) = true := decide_eq_true (by omega)
  have c3 : decide (m.dst < 64) = true := decide_eq_true (by omega)
  have c4 : decide (m.tg < 64) = true := decide_eq_true (by omega)
  have c5 : decide (m.rg < 64) = true := decide_eq_true (by omega)
  have c6 : allB pN m.news = false := by simpa using h6
  clear h0 h1 h2 h3 h4 h5 h6
  have HB := Lib.hid (below_alloc (Below.refl w.heap.size w) (.cells #[.int .u8 m.kind, .int .u8 m.fr, .int .u8 m.dst, .int .u32 m.id, .int .u8 m.tg, .int .u8 m.rg, .bool m.flag, .slice A7 m.news.length g7, .slice A8 m.keys.length g8, .slice A9 m.recs.length g9, .slice A10 m.seen.length g10, .slice A11 m.digs.length g11] 29))
  have XN := Lib.hid (fun (W : World) (h : Below w.heap.size w W) => all72_c A7 g7 m.news W pN (hm.below h).r7 hm.l7 hs.n1 (fun x _ W => pN_c x W))
  rw [c6] at XN
  clear c6
  clear hm hs
  go_enter Try.func18, Try.ntmps18
  go_upto_region 1 with (fail)
  have AZ := Lib.hid (blk_new w (.cells #[.int .u8 m.kind, .int .u8 m.fr, .int .u8 m.dst, .int .u32 m.id, .int .u8 m.tg, .int .u8 m.rg, .bool m.flag, .slice A7 m.news.length g7, .slice A8 m.keys.length g8, .slice A9 m.recs.length g9, .slice A10 m.seen.length g10, .slice A11 m.digs.length g11] 29))
  generalize w.alloc (.cells #[.int .u8 m.kind, .int .u8 m.fr, .int .u8 m.dst, .int .u32 m.id, .int .u8 m.tg, .int .u8 m.rg, .bool m.flag, .slice A7 m.news.length g7, .slice A8 m.keys.length g8, .slice A9 m.recs.length g9, .slice A10 m.seen.length g10, .slice A11 m.digs.length g11] 29) = w1 at *
  have ez0 : w1.cell? ⟨w.heap.size, 0, none⟩ = some (.int .u8 m.kind) := (blk_cell AZ.out 0).trans rfl
  have ez1 : w1.cell? ⟨w.heap.size, 1, none⟩ = some (.int .u8 m.fr) := (blk_cell AZ.out 1).trans rfl
  have ez2 : w1.cell? ⟨w.heap.size, 2, none⟩ = some (.int .u8 m.dst) := (blk_cell AZ.out 2).trans rfl
  have ez4 : w1.cell? ⟨w.heap.size, 4, none⟩ = some (.int .u8 m.tg) := (blk_cell AZ.out 4).trans rfl
  have ez5 : w1.cell? ⟨w.heap.size, 5, none⟩ = some (.int .u8 m.rg) := (blk_cell AZ.out 5).trans rfl
  have ez7 : w1.cell? ⟨w.heap.size, 7, none⟩ = some (.slice A7 m.news.length g7) := (blk_cell AZ.out 7).trans rfl
  have ez8 : w1.cell? ⟨w.heap.size, 8, none⟩ = some (.slice A8 m.keys.length g8) := (blk_cell AZ.out 8).trans rfl
  have ez9 : w1.cell? ⟨w.heap.size, 9, none⟩ = some (.slice A9 m.recs.length g9) := (blk_cell AZ.out 9).trans rfl
  have ez10 : w1.cell? ⟨w.heap.size, 10, none⟩ = some (.slice A10 m.seen.length g10) := (blk_cell AZ.out 10).trans rfl
  have ez11 : w1.cell? ⟨w.heap.size, 11, none⟩ = some (.slice A11 m.digs.length g11) := (blk_cell AZ.out 11).trans rfl
  go_wp2_with ((go_at_call 54; (with_reducible refine (XN.out _ HB.out).mono ?_); rintro e w12 ⟨rfl, hb0⟩; have HB1 := Lib.hid (below_step HB.out hb0); have AZ1 := Lib.hid (blk_below AZ.out hb0); have ex8 : w12.cell? ⟨w.heap.size, 8, none⟩ = some (.slice A8 m.keys.length g8) := (blk_cell AZ1.out 8).trans rfl; clear hb0 XN))
  go_ret
  exact ⟨rfl, HB1.out⟩
set_option maxRecDepth 100000 in
set_option maxHeartbeats 4000000 in
theorem may_c_5 (m : M) (A7 : Option Addr) (g7 : Nat) (A8 : Option Addr) (g8 : Nat) (A9 : Option Addr) (g9 : Nat) (A10 : Option Addr) (g10 : Nat) (A11 : Option Addr) (g11 : Nat) (w : World) (hm : HasM m A7 g7 A8 g8 A9 g9 A10 g10 A11 g11 w) (hs : SmM m) (h0 : 1 ≤ m.kind) (h1 : m.kind ≤ 14) (h2 : m.fr < 64) (h3 : m.dst < 64) (h4 : m.tg < 64) (h5 : ¬ (m.rg < 64)) :
    Calls Try.prog 18 #[.agg #[.int .u8 m.kind, .int .u8 m.fr, .int .u8 m.dst, .int .u32 m.id, .int .u8 m.tg, .int .u8 m.rg, .bool m.flag, .slice A7 m.news.length g7, .slice A8 m.keys.length g8, .slice A9 m.recs.length g9, .slice A10 m.seen.length g10, .slice A11 m.digs.length g11]] w fun e w' => e = .returned (.bool (false)) ∧ Below w.heap.size w w' := by
  have c0 : decide (1 ≤ m.kind) = true := decide_eq_true (by omega)
  have c1 : decide (m.kind ≤ 14) = true := decide_eq_true (by omega)
  have c2 : decide (m.fr < 64) = true := decide_eq_true (by omega)
  have c3 : decide (m.dst < 64) = true := decide_eq_true (by omega)
  have c4 : decide (m.tg < 64) = true := decide_eq_true (by omega)
  have c5 : decide (m.rg < 64) = false := decide_eq_false (by omega)
  clear h0 h1 h2 h3 h4 h5
  have HB := Lib.hid (below_alloc (Below.refl w.heap.size w) (.cells #[.int .u8 m.kind, .int .u8 m.fr, .int .u8 m.dst, .int .u32 m.id, .int .u8 m.tg, .int .u8 m.rg, .bool m.flag, .slice A7 m.news.length g7, .slice A8 m.keys.length g8, .slice A9 m.recs.length g9, .slice A10 m.seen.length g10, .slice A11 m.digs.length g11] 29))
  clear hm hs
  go_enter Try.func18, Try.ntmps18
  go_upto_region 1 with (fail)
  have AZ := Lib.hid (blk_new w (.cells #[.int .u8 m.kind, .int .u8 m.fr, .int .u8 m.dst, .int .u32 m.id, .int .u8 m.tg, .int .u8 m.rg, .bool m.flag, .slice A7 m.news.length g7, .slice A8 m.keys.length g8, .slice A9 m.recs.length g9, .slice A10 m.seen.length g10, .slice A11 m.digs.length g11] 29))
  generalize w.alloc (.cells #[.int .u8 m.kind, .int .u8 m.fr, .int .u8 m.dst, .int .u32 m.id, .int .u8 m.tg, .int .u8 m.rg, .bool m.flag, .slice A7 m.news.length g7, .slice A8 m.keys.length g8, .slice A9 m.recs.length g9, .slice A10 m.seen.length g10, .slice A11 m.digs.length g11] 29) = w1 at *
  have ez0 : w1.cell? ⟨w.heap.size, 0, none⟩ = some (.int .u8 m.kind) := (blk_cell AZ.out 0).trans rfl
  have ez1 : w1.cell? ⟨w.heap.size, 1, none⟩ = some (.int .u8 m.fr) := (blk_cell AZ.out 1).trans rfl
  have ez2 : w1.cell? ⟨w.heap.size, 2, none⟩ = some (.int .u8 m.dst) := (blk_cell AZ.out 2).trans rfl
  have ez4 : w1.cell? ⟨w.heap.size, 4, none⟩ = some (.int .u8 m.tg) := (blk_cell AZ.out 4).trans rfl
  have ez5 : w1.cell? ⟨w.heap.size, 5, none⟩ = some (.int .u8 m.rg) := (blk_cell AZ.out 5).trans rfl
  have ez7 : w1.cell? ⟨w.heap.size, 7, none⟩ = some (.slice A7 m.news.length g7) := (blk_cell AZ.out 7).trans rfl
  have ez8 : w1.cell? ⟨w.heap.size, 8, none⟩ = some (.slice A8 m.keys.length g8) := (blk_cell AZ.out 8).trans rfl
  have ez9 : w1.cell? ⟨w.heap.size, 9, none⟩ = some (.slice A9 m.recs.length g9) := (blk_cell AZ.out 9).trans rfl
  have ez10 : w1.cell? ⟨w.heap.size, 10, none⟩ = some (.slice A10 m.seen.length g10) := (blk_cell AZ.out 10).trans rfl
  have ez11 : w1.cell? ⟨w.heap.size, 11, none⟩ = some (.slice A11 m.digs.length g11) := (blk_cell AZ.out 11).trans rfl
  go_wp2_with (fail)
  go_ret
  exact ⟨rfl, HB.out⟩
set_option maxRecDepth 100000 in
set_option maxHeartbeats 4000000 in
theorem may_c_6 (m : M) (A7 : Option Addr) (g7 : Nat) (A8 : Option Addr) (g8 : Nat) (A9 : Option Addr) (g9 : Nat) (A10 : Option Addr) (g10 : Nat) (A11 : Option Addr) (g11 : Nat) (w : World) (hm : HasM m A7 g7 A8 g8 A9 g9 A10 g10 A11 g11 w) (hs : SmM m) (h0 : 1 ≤ m.kind) (h1 : m.kind ≤ 14) (h2 : m.fr < 64) (h3 : m.dst < 64) (h4 : ¬ (m.tg < 64)) :
    Calls Try.prog 18 #[.agg #[.int .u8 m.kind, .int .u8 m.fr, .int .u8 m.dst, .int .u32 m.id, .int .u8 m.tg, .int .u8 m.rg, .bool m.flag, .slice A7 m.news.length g7, .slice A8 m.keys.length g8, .slice A9 m.recs.length g9, .slice A10 m.seen.length g10, .slice A11 m.digs.length g11]] w fun e w' => e = .returned (.bool (false)) ∧ Below w.heap.size w w' := by
  have c0 : decide (1 ≤ m.kind) = true := decide_eq_true (by omega)
  have c1 : decide (m.kind ≤ 14) = true := decide_eq_true (by omega)
  have c2 : decide (m.fr < 64) = true := decide_eq_true (by omega)
  have c3 : decide (m.dst < 64) = true := decide_eq_true (by omega)
  have c4 : decide (m.tg < 64) = false := decide_eq_false (by omega)
  clear h0 h1 h2 h3 h4
  have HB := Lib.hid (below_alloc (Below.refl w.heap.size w) (.cells #[.int .u8 m.kind, .int .u8 m.fr, .int .u8 m.dst, .int .u32 m.id, .int .u8 m.tg, .int .u8 m.rg, .bool m.flag, .slice A7 m.news.length g7, .slice A8 m.keys.length g8, .slice A9 m.recs.length g9, .slice A10 m.seen.length g10, .slice A11 m.digs.length g11] 29))
  clear hm hs
  go_enter Try.func18, Try.ntmps18
  go_upto_region 1 with (fail)
  have AZ := Lib.hid (blk_new w (.cells #[.int .u8 m.kind, .int .u8 m.fr, .int .u8 m.dst, .int .u32 m.id, .int .u8 m.tg, .int .u8 m.rg, .bool m.flag, .slice A7 m.news.length g7, .slice A8 m.keys.length g8, .slice A9 m.recs.length g9, .slice A10 m.seen.length g10, .slice A11 m.digs.length g11] 29))
  generalize w.alloc (.cells #[.int .u8 m.kind, .int .u8 m.fr, .int .u8 m.dst, .int .u32 m.id, .int .u8 m.tg, .int .u8 m.rg, .bool m.flag, .slice A7 m.news.length g7, .slice A8 m.keys.length g8, .slice A9 m.recs.length g9, .slice A10 m.seen.length g10, .slice A11 m.digs.length g11] 29) = w1 at *
  have ez0 : w1.cell? ⟨w.heap.size, 0, none⟩ = some (.int .u8 m.kind) := (blk_cell AZ.out 0).trans rfl
  have ez1 : w1.cell? ⟨w.heap.size, 1, none⟩ = some (.int .u8 m.fr) := (blk_cell AZ.out 1).trans rfl
  have ez2 : w1.cell? ⟨w.heap.size, 2, none⟩ = some (.int .u8 m.dst) := (blk_cell AZ.out 2).trans rfl
  have ez4 : w1.cell? ⟨w.heap.size, 4, none⟩ = some (.int .u8 m.tg) := (blk_cell AZ.out 4).trans rfl
  have ez5 : w1.cell? ⟨w.heap.size, 5, none⟩ = some (.int .u8 m.rg) := (blk_cell AZ.out 5).trans rfl
  have ez7 : w1.cell? ⟨w.heap.size, 7, none⟩ = some (.slice A7 m.news.length g7) := (blk_cell AZ.out 7).trans rfl
  have ez8 : w1.cell? ⟨w.heap.size, 8, none⟩ = some (.slice A8 m.keys.length g8) := (blk_cell AZ.out 8).trans rfl
  have ez9 : w1.cell? ⟨w.heap.size, 9, none⟩ = some (.slice A9 m.recs.length g9) := (blk_cell AZ.out 9).trans rfl
  have ez10 : w1.cell? ⟨w.heap.size, 10, none⟩ = some (.slice A10 m.seen.length g10) := (blk_cell AZ.out 10).trans rfl
  have ez11 : w1.cell? ⟨w.heap.size, 11, none⟩ = some (.slice A11 m.digs.length g11) := (blk_cell AZ.out 11).trans rfl
  go_wp2_with (fail)
  go_ret
  exact ⟨rfl, HB.out⟩
set_option maxRecDepth 100000 in
set_option maxHeartbeats 4000000 in
theorem may_c_7 (m : M) (A7 : Option Addr) (g7 : Nat) (A8 : Option Addr) (g8 : Nat) (A9 : Option Addr) (g9 : Nat) (A10 : Option Addr) (g10 : Nat) (A11 : Option Addr) (g11 : Nat) (w : World) (hm : HasM m A7 g7 A8 g8 A9 g9 A10 g10 A11 g11 w) (hs : SmM m) (h0 : 1 ≤ m.kind) (h1 : m.kind ≤ 14) (h2 : m.fr < 64) (h3 : ¬ (m.dst < 64)) :
    Calls Try.prog 18 #[.agg #[.int .u8 m.kind, .int .u8 m.fr, .int .u8 m.dst, .int .u32 m.id, .int .u8 m.tg, .int .u8 m.rg, .bool m.flag, .slice A7 m.news.length g7, .slice A8 m.keys.length g8, .slice A9 m.recs.length g9, .slice A10 m.seen.length g10, .slice A11 m.digs.length g11]] w fun e w' => e = .returned (.bool (false)) ∧ Below w.heap.size w w' := by
  have c0 : decide (1 ≤ m.kind) = true := decide_eq_true (by omega)
  have c1 : decide (m.kind ≤ 14) = true := decide_eq_true (by omega)
  have c2 : decide (m.fr < 64) = true := decide_eq_true (by omega)
  have c3 : decide (m.dst < 64) = false := decide_eq_false (by omega)
  clear h0 h1 h2 h3
  have HB := Lib.hid (below_alloc (Below.refl w.heap.size w) (.cells #[.int .u8 m.kind, .int .u8 m.fr, .int .u8 m.dst, .int .u32 m.id, .int .u8 m.tg, .int .u8 m.rg, .bool m.flag, .slice A7 m.news.length g7, .slice A8 m.keys.length g8, .slice A9 m.recs.length g9, .slice A10 m.seen.length g10, .slice A11 m.digs.length g11] 29))
  clear hm hs
  go_enter Try.func18, Try.ntmps18
  go_upto_region 1 with (fail)
  have AZ := Lib.hid (blk_new w (.cells #[.int .u8 m.kind, .int .u8 m.fr, .int .u8 m.dst, .int .u32 m.id, .int .u8 m.tg, .int .u8 m.rg, .bool m.flag, .slice A7 m.news.length g7, .slice A8 m.keys.length g8, .slice A9 m.recs.length g9, .slice A10 m.seen.length g10, .slice A11 m.digs.length g11] 29))
  generalize w.alloc (.cells #[.int .u8 m.kind, .int .u8 m.fr, .int .u8 m.dst, .int .u32 m.id, .int .u8 m.tg, .int .u8 m.rg, .bool m.flag, .slice A7 m.news.length g7, .slice A8 m.keys.length g8, .slice A9 m.recs.length g9, .slice A10 m.seen.length g10, .slice A11 m.digs.length g11] 29) = w1 at *
  have ez0 : w1.cell? ⟨w.heap.size, 0, none⟩ = some (.int .u8 m.kind) := (blk_cell AZ.out 0).trans rfl
  have ez1 : w1.cell? ⟨w.heap.size, 1, none⟩ = some (.int .u8 m.fr) := (blk_cell AZ.out 1).trans rfl
  have ez2 : w1.cell? ⟨w.heap.size, 2, none⟩ = some (.int .u8 m.dst) := (blk_cell AZ.out 2).trans rfl
  have ez4 : w1.cell? ⟨w.heap.size, 4, none⟩ = some (.int .u8 m.tg) := (blk_cell AZ.out 4).trans rfl
  have ez5 : w1.cell? ⟨w.heap.size, 5, none⟩ = some (.int .u8 m.rg) := (blk_cell AZ.out 5).trans rfl
  have ez7 : w1.cell? ⟨w.heap.size, 7, none⟩ = some (.slice A7 m.news.length g7) := (blk_cell AZ.out 7).trans rfl
  have ez8 : w1.cell? ⟨w.heap.size, 8, none⟩ = some (.slice A8 m.keys.length g8) := (blk_cell AZ.out 8).trans rfl
  have ez9 : w1.cell? ⟨w.heap.size, 9, none⟩ = some (.slice A9 m.recs.length g9) := (blk_cell AZ.out 9).trans rfl
  have ez10 : w1.cell? ⟨w.heap.size, 10, none⟩ = some (.slice A10 m.seen.length g10) := (blk_cell AZ.out 10).trans rfl
  have ez11 : w1.cell? ⟨w.heap.size, 11, none⟩ = some (.slice A11 m.digs.length g11) := (blk_cell AZ.out 11).trans rfl
  go_wp2_with (fail)
  go_ret
  exact ⟨rfl, HB.out⟩
set_option maxRecDepth 100000 in
set_option maxHeartbeats 4000000 in
theorem may_c_8 (m : M) (A7 : Option Addr) (g7 : Nat) (A8 : Option Addr) (g8 : Nat) (A9 : Option Addr) (g9 : Nat) (A10 : Option Addr) (g10 : Nat) (A11 : Option Addr) (g11 : Nat) (w : World) (hm : HasM m A7 g7 A8 g8 A9 g9 A10 g10 A11 g11 w) (hs : SmM m) (h0 : 1 ≤ m.kind) (h1 : m.kind ≤ 14) (h2 : ¬ (m.fr < 64)) :
    Calls Try.prog 18 #[.agg #[.int .u8 m.kind, .int .u8 m.fr, .int .u8 m.dst, .int .u32 m.id, .int .u8 m.tg, .int .u8 m.rg, .bool m.flag, .slice A7 m.news.length g7, .slice A8 m.keys.length g8, .slice A9 m.recs.length g9, .slice A10 m.seen.length g10, .slice A11 m.digs.length g11]] w fun e w' => e = .returned (.bool (false)) ∧ Below w.heap.size w w' := by
  have c0 : decide (1 ≤ m.kind) = true := decide_eq_true (by omega)
  have c1 : decide (m.kind ≤ 14) = true := decide_eq_true (by omega)
  have c2 : decide (m.fr < 64) = false := decide_eq_false (by omega)
  clear h0 h1 h2
  have HB := Lib.hid (below_alloc (Below.refl w.heap.size w) (.cells #[.int .u8 m.kind, .int .u8 m.fr, .int .u8 m.dst, .int .u32 m.id, .int .u8 m.tg, .int .u8 m.rg, .bool m.flag, .slice A7 m.news.length g7, .slice A8 m.keys.length g8, .slice A9 m.recs.length g9, .slice A10 m.seen.length g10, .slice A11 m.digs.length g11] 29))
  clear hm hs
  go_enter Try.func18, Try.ntmps18
  go_upto_region 1 with (fail)
  have AZ := Lib.hid (blk_new w (.cells #[.int .u8 m.kind, .int .u8 m.fr, .int .u8 m.dst, .int .u32 m.id, .int .u8 m.tg, .int .u8 m.rg, .bool m.flag, .slice A7 m.news.length g7, .slice A8 m.keys.length g8, .slice A9 m.recs.length g9, .slice A10 m.seen.length g10, .slice A11 m.digs.length g11] 29))
  generalize w.alloc (.cells #[.int .u8 m.kind, .int .u8 m.fr, .int .u8 m.dst, .int .u32 m.id, .int .u8 m.tg, .int .u8 m.rg, .bool m.flag, .slice A7 m.news.length g7, .slice A8 m.keys.length g8, .slice A9 m.recs.length g9, .slice A10 m.seen.length g10, .slice A11 m.digs.length g11] 29) = w1 at *
  have ez0 : w1.cell? ⟨w.heap.size, 0, none⟩ = some (.int .u8 m.kind) := (blk_cell AZ.out 0).trans rfl
  have ez1 : w1.cell? ⟨w.heap.size, 1, none⟩ = some (.int .u8 m.fr) := (blk_cell AZ.out 1).trans rfl
  have ez2 : w1.cell? ⟨w.heap.size, 2, none⟩ = some (.int .u8 m.dst) := (blk_cell AZ.out 2).trans rfl
  have ez4 : w1.cell? ⟨w.heap.size, 4, none⟩ = some (.int .u8 m.tg) := (blk_cell AZ.out 4).trans rfl
  have ez5 : w1.cell? ⟨w.heap.size, 5, none⟩ = some (.int .u8 m.rg) := (blk_cell AZ.out 5).trans rfl
  have ez7 : w1.cell? ⟨w.heap.size, 7, none⟩ = some (.slice A7 m.news.length g7) := (blk_cell AZ.out 7).trans rfl
  have ez8 : w1.cell? ⟨w.heap.size, 8, none⟩ = some (.slice A8 m.keys.length g8) := (blk_cell AZ.out 8).trans rfl
  have ez9 : w1.cell? ⟨w.heap.size, 9, none⟩ = some (.slice A9 m.recs.length g9) := (blk_cell AZ.out 9).trans rfl
  have ez10 : w1.cell? ⟨w.heap.size, 10, none⟩ = some (.slice A10 m.seen.length g10) := (blk_cell AZ.out 10).trans rfl
  have ez11 : w1.cell? ⟨w.heap.size, 11, none⟩ = some (.slice A11 m.digs.length g11) := (blk_cell AZ.out 11).trans rfl
  go_wp2_with (fail)
  go_ret
  exact ⟨rfl, HB.out⟩
set_option maxRecDepth 100000 in
set_option maxHeartbeats 4000000 in
theorem may_c_9 (m : M) (A7 : Option Addr) (g7 : Nat) (A8 : Option Addr) (g8 : Nat) (A9 : Option Addr) (g9 : Nat) (A10 : Option Addr) (g10 : Nat) (A11 : Option Addr) (g11 : Nat) (w : World) (hm : HasM m A7 g7 A8 g8 A9 g9 A10 g10 A11 g11 w) (hs : SmM m) (h0 : 1 ≤ m.kind) (h1 : ¬ (m.kind ≤ 14)) :
    Calls Try.prog 18 #[.agg #[.int .u8 m.kind, .int .u8 m.fr, .int .u8 m.dst, .int .u32 m.id, .int .u8 m.tg, .int .u8 m.rg, .bool m.flag, .slice A7 m.news.length g7, .slice A8 m.keys.length g8, .slice A9 m.recs.length g9, .slice A10 m.seen.length g10, .slice A11 m.digs.length g11]] w fun e w' => e = .returned (.bool (false)) ∧ Below w.heap.size w w' := by
  have c0 : decide (1 ≤ m.kind) = true := decide_eq_true (by omega)
  have c1 : decide (m.kind ≤ 14) = false := decide_eq_false (by omega)
  clear h0 h1
  have HB := Lib.hid (below_alloc (Below.refl w.heap.size w) (.cells #[.int .u8 m.kind, .int .u8 m.fr, .int .u8 m.dst, .int .u32 m.id, .int .u8 m.tg, .int .u8 m.rg, .bool m.flag, .slice A7 m.news.length g7, .slice A8 m.keys.length g8, .slice A9 m.recs.length g9, .slice A10 m.seen.length g10, .slice A11 m.digs.length g11] 29))
  clear hm hs
  go_enter Try.func18, Try.ntmps18
  go_upto_region 1 with (fail)
  have AZ := Lib.hid (blk_new w (.cells #[.int .u8 m.kind, .int .u8 m.fr, .int .u8 m.dst, .int .u32 m.id, .int .u8 m.tg, .int .u8 m.rg, .bool m.flag, .slice A7 m.news.length g7, .slice A8 m.keys.length g8, .slice A9 m.recs.length g9, .slice A10 m.seen.length g10, .slice A11 m.digs.length g11] 29))
  generalize w.alloc (.cells #[.int .u8 m.kind, .int .u8 m.fr, .int .u8 m.dst, .int .u32 m.id, .int .u8 m.tg, .int .u8 m.rg, .bool m.flag, .slice A7 m.news.length g7, .slice A8 m.keys.length g8, .slice A9 m.recs.length g9, .slice A10 m.seen.length g10, .slice A11 m.digs.length g11] 29) = w1 at *
  have ez0 : w1.cell? ⟨w.heap.size, 0, none⟩ = some (.int .u8 m.kind) := (blk_cell AZ.out 0).trans rfl
  have ez1 : w1.cell? ⟨w.heap.size, 1, none⟩ = some (.int .u8 m.fr) := (blk_cell AZ.out 1).trans rfl
  have ez2 : w1.cell? ⟨w.heap.size, 2, none⟩ = some (.int .u8 m.dst) := (blk_cell AZ.out 2).trans rfl
  have ez4 : w1.cell? ⟨w.heap.size, 4, none⟩ = some (.int .u8 m.tg) := (blk_cell AZ.out 4).trans rfl
  have ez5 : w1.cell? ⟨w.heap.size, 5, none⟩ = some (.int .u8 m.rg) := (blk_cell AZ.out 5).trans rfl
  have ez7 : w1.cell? ⟨w.heap.size, 7, none⟩ = some (.slice A7 m.news.length g7) := (blk_cell AZ.out 7).trans rfl
  have ez8 : w1.cell? ⟨w.heap.size, 8, none⟩ = some (.slice A8 m.keys.length g8) := (blk_cell AZ.out 8).trans rfl
  have ez9 : w1.cell? ⟨w.heap.size, 9, none⟩ = some (.slice A9 m.recs.length g9) := (blk_cell AZ.out 9).trans rfl
  have ez10 : w1.cell? ⟨w.heap.size, 10, none⟩ = some (.slice A10 m.seen.length g10) := (blk_cell AZ.out 10).trans rfl
  have ez11 : w1.cell? ⟨w.heap.size, 11, none⟩ = some (.slice A11 m.digs.length g11) := (blk_cell AZ.out 11).trans rfl
  go_wp2_with (fail)
  go_ret
  exact ⟨rfl, HB.out⟩
set_option maxRecDepth 100000 in
set_option maxHeartbeats 4000000 in
theorem may_c_10 (m : M) (A7 : Option Addr) (g7 : Nat) (A8 : Option Addr) (g8 : Nat) (A9 : Option Addr) (g9 : Nat) (A10 : Option Addr) (g10 : Nat) (A11 : Option Addr) (g11 : Nat) (w : World) (hm : HasM m A7 g7 A8 g8 A9 g9 A10 g10 A11 g11 w) (hs : SmM m) (h0 : ¬ (1 ≤ m.kind)) :
    Calls Try.prog 18 #[.agg #[.int .u8 m.kind, .int .u8 m.fr, .int .u8 m.dst, .int .u32 m.id, .int .u8 m.tg, .int .u8 m.rg, .bool m.flag, .slice A7 m.news.length g7, .slice A8 m.keys.length g8, .slice A9 m.recs.length g9, .slice A10 m.seen.length g10, .slice A11 m.digs.length g11]] w fun e w' => e = .returned (.bool (false)) ∧ Below w.heap.size w w' := by
  have c0 : decide (1 ≤ m.kind) = false := decide_eq_false (by omega)
  clear h0
  have HB := Lib.hid (below_alloc (Below.refl w.heap.size w) (.cells #[.int .u8 m.kind, .int .u8 m.fr, .int .u8 m.dst, .int .u32 m.id, .int .u8 m.tg, .int .u8 m.rg, .bool m.flag, .slice A7 m.news.length g7, .slice A8 m.keys.length g8, .slice A9 m.recs.length g9, .slice A10 m.seen.length g10, .slice A11 m.digs.length g11] 29))
  clear hm hs
  go_enter Try.func18, Try.ntmps18
  go_upto_region 1 with (fail)
  have AZ := Lib.hid (blk_new w (.cells #[.int .u8 m.kind, .int .u8 m.fr, .int .u8 m.dst, .int .u32 m.id, .int .u8 m.tg, .int .u8 m.rg, .bool m.flag, .slice A7 m.news.length g7, .slice A8 m.keys.length g8, .slice A9 m.recs.length g9, .slice A10 m.seen.length g10, .slice A11 m.digs.length g11] 29))
  generalize w.alloc (.cells #[.int .u8 m.kind, .int .u8 m.fr, .int .u8 m.dst, .int .u32 m.id, .int .u8 m.tg, .int .u8 m.rg, .bool m.flag, .slice A7 m.news.length g7, .slice A8 m.keys.length g8, .slice A9 m.recs.length g9, .slice A10 m.seen.length g10, .slice A11 m.digs.length g11] 29) = w1 at *
  have ez0 : w1.cell? ⟨w.heap.size, 0, none⟩ = some (.int .u8 m.kind) := (blk_cell AZ.out 0).trans rfl
  have ez1 : w1.cell? ⟨w.heap.size, 1, none⟩ = some (.int .u8 m.fr) := (blk_cell AZ.out 1).trans rfl
  have ez2 : w1.cell? ⟨w.heap.size, 2, none⟩ = some (.int .u8 m.dst) := (blk_cell AZ.out 2).trans rfl
  have ez4 : w1.cell? ⟨w.heap.size, 4, none⟩ = some (.int .u8 m.tg) := (blk_cell AZ.out 4).trans rfl
  have ez5 : w1.cell? ⟨w.heap.size, 5, none⟩ = some (.int .u8 m.rg) := (blk_cell AZ.out 5).trans rfl
  have ez7 : w1.cell? ⟨w.heap.size, 7, none⟩ = some (.slice A7 m.news.length g7) := (blk_cell AZ.out 7).trans rfl
  have ez8 : w1.cell? ⟨w.heap.size, 8, none⟩ = some (.slice A8 m.keys.length g8) := (blk_cell AZ.out 8).trans rfl
  have ez9 : w1.cell? ⟨w.heap.size, 9, none⟩ = some (.slice A9 m.recs.length g9) := (blk_cell AZ.out 9).trans rfl
  have ez10 : w1.cell? ⟨w.heap.size, 10, none⟩ = some (.slice A10 m.seen.length g10) := (blk_cell AZ.out 10).trans rfl
  have ez11 : w1.cell? ⟨w.heap.size, 11, none⟩ = some (.slice A11 m.digs.length g11) := (blk_cell AZ.out 11).trans rfl
  go_wp2_with (fail)
  go_ret
  exact ⟨rfl, HB.out⟩
theorem may_c (m : M) (A7 : Option Addr) (g7 : Nat) (A8 : Option Addr) (g8 : Nat) (A9 : Option Addr) (g9 : Nat) (A10 : Option Addr) (g10 : Nat) (A11 : Option Addr) (g11 : Nat) (w : World) (hm : HasM m A7 g7 A8 g8 A9 g9 A10 g10 A11 g11 w) (hs : SmM m) :
    Calls Try.prog 18 #[.agg #[.int .u8 m.kind, .int .u8 m.fr, .int .u8 m.dst, .int .u32 m.id, .int .u8 m.tg, .int .u8 m.rg, .bool m.flag, .slice A7 m.news.length g7, .slice A8 m.keys.length g8, .slice A9 m.recs.length g9, .slice A10 m.seen.length g10, .slice A11 m.digs.length g11]] w fun e w' => e = .returned (.bool (mayM m)) ∧ Below w.heap.size w w' := by
  unfold mayM
  by_cases h0 : 1 ≤ m.kind
  · by_cases h1 : m.kind ≤ 14
    · by_cases h2 : m.fr < 64
      · by_cases h3 : m.dst < 64
        · by_cases h4 : m.tg < 64
          · by_cases h5 : m.rg < 64
            · by_cases h6 : allB pN m.news = true
              · by_cases h7 : allB pK m.keys = true
                · by_cases h8 : allB pR m.recs = true
                  · by_cases h9 : allB pS m.seen = true
                    · rw [if_pos h0, if_pos h1, if_pos h2, if_pos h3, if_pos h4, if_pos h5, if_pos h6, if_pos h7, if_pos h8, if_pos h9]
                      exact may_c_0 m A7 g7 A8 g8 A9 g9 A10 g10 A11 g11 w hm hs h0 h1 h2 h3 h4 h5 h6 h7 h8 h9
                    · rw [if_pos h0, if_pos h1, if_pos h2, if_pos h3, if_pos h4, if_pos h5, if_pos h6, if_pos h7, if_pos h8, if_neg h9]
                      exact may_c_1 m A7 g7 A8 g8 A9 g9 A10 g10 A11 g11 w hm hs h0 h1 h2 h3 h4 h5 h6 h7 h8 h9
                  · rw [if_pos h0, if_pos h1, if_pos h2, if_pos h3, if_pos h4, if_pos h5, if_pos h6, if_pos h7, if_neg h8]
                    exact may_c_2 m A7 g7 A8 g8 A9 g9 A10 g10 A11 g11 w hm hs h0 h1 h2 h3 h4 h5 h6 h7 h8
                · rw [if_pos h0, if_pos h1, if_pos h2, if_pos h3, if_pos h4, if_pos h5, if_pos h6, if_neg h7]
                  exact may_c_3 m A7 g7 A8 g8 A9 g9 A10 g10 A11 g11 w hm hs h0 h1 h2 h3 h4 h5 h6 h7
              · rw [if_pos h0, if_pos h1, if_pos h2, if_pos h3, if_pos h4, if_pos h5, if_neg h6]
                exact may_c_4 m A7 g7 A8 g8 A9 g9 A10 g10 A11 g11 w hm hs h0 h1 h2 h3 h4 h5 h6
            · rw [if_pos h0, if_pos h1, if_pos h2, if_pos h3, if_pos h4, if_neg h5]
              exact may_c_5 m A7 g7 A8 g8 A9 g9 A10 g10 A11 g11 w hm hs h0 h1 h2 h3 h4 h5
          · rw [if_pos h0, if_pos h1, if_pos h2, if_pos h3, if_neg h4]
            exact may_c_6 m A7 g7 A8 g8 A9 g9 A10 g10 A11 g11 w hm hs h0 h1 h2 h3 h4
        · rw [if_pos h0, if_pos h1, if_pos h2, if_neg h3]
          exact may_c_7 m A7 g7 A8 g8 A9 g9 A10 g10 A11 g11 w hm hs h0 h1 h2 h3
      · rw [if_pos h0, if_pos h1, if_neg h2]
        exact may_c_8 m A7 g7 A8 g8 A9 g9 A10 g10 A11 g11 w hm hs h0 h1 h2
    · rw [if_pos h0, if_neg h1]
      exact may_c_9 m A7 g7 A8 g8 A9 g9 A10 g10 A11 g11 w hm hs h0 h1
  · rw [if_neg h0]
    exact may_c_10 m A7 g7 A8 g8 A9 g9 A10 g10 A11 g11 w hm hs h0
end Go.Proofs.Ytdjompbhlkgmbaa.Msg
end
section
/- The reader's number (own text; written by wip/tools/gen_msgnumber.py). -/
namespace Go.Proofs.Ytdjompbhlkgmbaa.Msg
open Go.RowKit Go.Proofs.Ytdjompbhlkgmbaa.Mem Go.Proofs.YtdjompbhlkgmbaaW.PrintWords Go.Proofs.YtdjompbhlkgmbaaW.PrintLast Go.Proofs.YtdjompbhlkgmbaaW.PrintMore
set_option linter.unusedVariables false
set_option linter.unusedSimpArgs false
theorem at_drewN {w : World} {b : Nat} {cs : Array Value} {t : TypeId} (h : At w b cs t) (n : Nat) : At (w.drewN n) b cs t := h
theorem at_drew {w : World} {b : Nat} {cs : Array Value} {t : TypeId} (h : At w b cs t) : At w.drew b cs t := h
set_option maxRecDepth 100000 in
set_option maxHeartbeats 4000000 in
theorem rnum_ok (zr : Nat) (s : ByteArray) (a lo hi n nx er : Int) (w : World) (hA : At w zr #[.string s, .int .i64 a] 89) (hs : s.size ≤ maxLen) (hg : Num.getS s a = (n, nx, er)) (h0 : er = 0) (h1 : ¬ n < lo) (h2 : ¬ hi < n) :
    Calls Try.prog 29 #[.pointer (some ⟨zr, 0, none⟩), .int .u64 lo, .int .u64 hi] w fun e w' => e = .returned (.int .u64 n) ∧ At w' zr #[.string s, .int .i64 nx] 89 ∧ Chg (fun x => x = zr) w w' := by
  have hgt := fun W => Num.get_any s a W hs
  rw [hg] at hgt
  have GT := Lib.hid (show ∀ W : World, Calls Try.prog 73 #[.string s, .int .i64 a] W fun e w' => e = .returned (.tuple #[.int .u64 n, .int .i64 nx, .int .i64 er]) ∧ ∃ N, w' = W.drewN N from hgt)
  have HA := Lib.hid hA
  subst h0
  have q1 : decide (n < lo) = false := decide_eq_false h1
  have q2 : decide (hi < n) = false := decide_eq_false h2
  clear hgt hg hs hA
  go_enter Try.func29, Try.ntmps29
  go_wp2_with (fail)
  refine start_ (n := 16) (S := fun w' => w'.cell? ⟨zr, 0, none⟩ = some (.string s) ∧ w'.cell? ⟨zr, 1, none⟩ = some (.int .i64 a)) (ds := []) #[false, false, false, false, false, false, false, false, false, false, false, false, false, false, false, false] (by kernel_rfl) rfl rfl ⟨HA.out.cell 0, HA.out.cell 1⟩ (fun hHeld => ?_)
  replace HA := Lib.hid (at_drew HA.out)
  have HB := Lib.hid (below_drew (Below.refl w.heap.size w))
  generalize w.drew = w3 at HA HB hHeld ⊢
  refine pure_ (i := 0) (N := some 11) (v := ?_) (a' := ?_) #[true, false, false, false, false, false, false, false, false, false, false, false, false, false, false, false] rfl rfl (by kernel_rfl) (fun _ _ _ h => h) (Or.inl ⟨by rfl, ?_⟩) ?_ ?_
  rotate_left
  · intro w'
    go_simp
    with_reducible rfl
  rotate_left
  · simp only [Act.put, List.setIfInBounds_toArray, List.set_cons_zero, List.set_cons_succ, i64_w, i32_w]
    rfl
  refine pure_ (i := 1) (N := some 12) (v := ?_) (a' := ?_) #[true, true, false, false, false, false, false, false, false, false, false, false, false, false, false, false] rfl rfl (by kernel_rfl) (fun _ _ _ h => h) (Or.inl ⟨by rfl, ?_⟩) ?_ ?_
  rotate_left
  · intro w'
    go_simp
    with_reducible rfl
  rotate_left
  · simp only [Act.put, List.setIfInBounds_toArray, List.set_cons_zero, List.set_cons_succ, i64_w, i32_w]
    rfl
  refine pure_ (i := 2) (N := some 13) (v := ?_) (a' := ?_) #[true, true, true, false, false, false, false, false, false, false, false, false, false, false, false, false] rfl rfl (by kernel_rfl) (fun _ _ _ h => h) (Or.inl ⟨by rfl, ?_⟩) ?_ ?_
  rotate_left
  · intro w'
    go_simp
    with_reducible rfl
  rotate_left
  · simp only [Act.put, List.setIfInBounds_toArray, List.set_cons_zero, List.set_cons_succ, i64_w, i32_w]
    rfl
  refine pure_ (i := 4) (N := some 15) (v := ?_) (a' := ?_) #[true, true, true, false, true, false, false, false, false, false, false, false, false, false, false, false] rfl rfl (by kernel_rfl) (fun _ _ _ h => h) (Or.inl ⟨by rfl, ?_⟩) ?_ ?_
  rotate_left
  · intro w'
    go_simp
    with_reducible rfl
  rotate_left
  · simp only [Act.put, List.setIfInBounds_toArray, List.set_cons_zero, List.set_cons_succ, i64_w, i32_w]
    rfl
  refine pure_ (i := 5) (N := some 16) (v := ?_) (a' := ?_) #[true, true, true, false, true, true, false, false, false, false, false, false, false, false, false, false] rfl rfl (by kernel_rfl) (fun _ _ _ h => h) (Or.inl ⟨by rfl, ?_⟩) ?_ ?_
  rotate_left
  · intro w'
    go_simp
    with_reducible rfl
  rotate_left
  · simp only [Act.put, List.setIfInBounds_toArray, List.set_cons_zero, List.set_cons_succ, i64_w, i32_w]
    rfl
  refine pure_ (i := 6) (N := some 17) (v := ?_) (a' := ?_) #[true, true, true, false, true, true, true, false, false, false, false, false, false, false, false, false] rfl rfl (by kernel_rfl) (fun _ _ _ h => h) (Or.inl ⟨by rfl, ?_⟩) ?_ ?_
  rotate_left
  · intro w'
    go_simp
    with_reducible rfl
  rotate_left
  · simp only [Act.put, List.setIfInBounds_toArray, List.set_cons_zero, List.set_cons_succ, i64_w, i32_w]
    rfl
  refine take_ (i := 3) (N := some 14) (v := ?_) (a' := ?_) #[true, true, true, true, true, true, true, false, false, false, false, false, false, false, false, false] rfl rfl (by kernel_rfl) (fun _ _ _ h => h) (Or.inl ⟨by rfl, ?_⟩) hHeld ?_ ?_
  rotate_left
  · rintro w' ⟨s0, s1⟩
    go_simp
    with_reducible rfl
  rotate_left
  · simp only [Act.put, List.setIfInBounds_toArray, List.set_cons_zero, List.set_cons_succ, i64_w, i32_w]
    rfl
  refine take_ (i := 7) (N := some 18) (v := ?_) (a' := ?_) #[true, true, true, true, true, true, true, true, false, false, false, false, false, false, false, false] rfl rfl (by kernel_rfl) (fun _ _ _ h => h) (Or.inl ⟨by rfl, ?_⟩) hHeld ?_ ?_
  rotate_left
  · rintro w' ⟨s0, s1⟩
    go_simp
    with_reducible rfl
  rotate_left
  · simp only [Act.put, List.setIfInBounds_toArray, List.set_cons_zero, List.set_cons_succ, i64_w, i32_w]
    rfl
  refine one_ (i := 8) (N := some 19) #[true, true, true, true, true, true, true, true, true, false, false, false, false, false, false, false] rfl rfl (by kernel_rfl) (by decide) (fun K hK => ?_)
  refine goes_ Try.func73 (by kernel_rfl) rfl #[.string s, .int .i64 a] (by rfl) rfl rfl (by simp only [List.map_toArray, List.map_cons, List.map_nil]; rfl) ?_
  with_reducible refine (GT.out _).mono ?_
  rintro e w10 ⟨rfl, N, rfl⟩
  refine ⟨_, rfl, ?_⟩
  have HA1 := Lib.hid (at_drewN HA.out N)
  have HB1 := Lib.hid (pw_below_drewN HB.out N)
  clear HA HB
  generalize w3.drewN N = w11 at HA1 HB1 ⊢
  refine hK.out _ _ ⟨HA1.out.cell 0, HA1.out.cell 1⟩ (fun hHeld => ?_)
  clear hK K
  refine norm_ (a' := ?_) ?_ ?_
  rotate_left
  · show Act.put _ (some 19) _ = _
    simp only [Act.put, List.setIfInBounds_toArray, List.set_cons_zero, List.set_cons_succ, i64_w, i32_w]
    rfl
  refine pure_ (i := 9) (N := some 10) (v := ?_) (a' := ?_) #[true, true, true, true, true, true, true, true, true, true, false, false, false, false, false, false] rfl rfl (by kernel_rfl) (fun _ _ _ h => h) (Or.inl ⟨by rfl, ?_⟩) ?_ ?_
  rotate_left
  · intro w'
    go_simp
    with_reducible rfl
  rotate_left
  · simp only [Act.put, List.setIfInBounds_toArray, List.set_cons_zero, List.set_cons_succ, i64_w, i32_w]
    rfl
  refine pure_ (i := 10) (N := some 20) (v := ?_) (a' := ?_) #[true, true, true, true, true, true, true, true, true, true, true, false, false, false, false, false] rfl rfl (by kernel_rfl) (fun _ _ _ h => h) (Or.inl ⟨by rfl, ?_⟩) ?_ ?_
  rotate_left
  · intro w'
    go_simp
    with_reducible rfl
  rotate_left
  · simp only [Act.put, List.setIfInBounds_toArray, List.set_cons_zero, List.set_cons_succ, i64_w, i32_w]
    rfl
  refine pure_ (i := 11) (N := some 21) (v := ?_) (a' := ?_) #[true, true, true, true, true, true, true, true, true, true, true, true, false, false, false, false] rfl rfl (by kernel_rfl) (fun _ _ _ h => h) (Or.inl ⟨by rfl, ?_⟩) ?_ ?_
  rotate_left
  · intro w'
    go_simp
    with_reducible rfl
  rotate_left
  · simp only [Act.put, List.setIfInBounds_toArray, List.set_cons_zero, List.set_cons_succ, i64_w, i32_w]
    rfl
  refine pure_ (i := 12) (N := some 22) (v := ?_) (a' := ?_) #[true, true, true, true, true, true, true, true, true, true, true, true, true, false, false, false] rfl rfl (by kernel_rfl) (fun _ _ _ h => h) (Or.inl ⟨by rfl, ?_⟩) ?_ ?_
  rotate_left
  · intro w'
    go_simp
    with_reducible rfl
  rotate_left
  · simp only [Act.put, List.setIfInBounds_toArray, List.set_cons_zero, List.set_cons_succ, i64_w, i32_w]
    rfl
  refine pure_ (i := 13) (N := some 7) (v := ?_) (a' := ?_) #[true, true, true, true, true, true, true, true, true, true, true, true, true, true, false, false] rfl rfl (by kernel_rfl) (fun _ _ _ h => h) (Or.inl ⟨by rfl, ?_⟩) ?_ ?_
  rotate_left
  · intro w'
    go_simp
    with_reducible rfl
  rotate_left
  · simp only [Act.put, List.setIfInBounds_toArray, List.set_cons_zero, List.set_cons_succ, i64_w, i32_w]
    rfl
  refine pure_ (i := 14) (N := some 8) (v := ?_) (a' := ?_) #[true, true, true, true, true, true, true, true, true, true, true, true, true, true, true, false] rfl rfl (by kernel_rfl) (fun _ _ _ h => h) (Or.inl ⟨by rfl, ?_⟩) ?_ ?_
  rotate_left
  · intro w'
    go_simp
    with_reducible rfl
  rotate_left
  · simp only [Act.put, List.setIfInBounds_toArray, List.set_cons_zero, List.set_cons_succ, i64_w, i32_w]
    rfl
  refine pure_ (i := 15) (N := some 9) (v := ?_) (a' := ?_) #[true, true, true, true, true, true, true, true, true, true, true, true, true, true, true, true] rfl rfl (by kernel_rfl) (fun _ _ _ h => h) (Or.inl ⟨by rfl, ?_⟩) ?_ ?_
  rotate_left
  · intro w'
    go_simp
    with_reducible rfl
  rotate_left
  · simp only [Act.put, List.setIfInBounds_toArray, List.set_cons_zero, List.set_cons_succ, i64_w, i32_w]
    rfl
  refine done_ (by kernel_rfl) ?_
  have e1 : w11.cell? ⟨zr, 1, none⟩ = some (.int .i64 a) := HA1.out.cell 1
  have f1 : w11.frozen? ⟨zr, 1, none⟩ = false := HA1.out.free 1
  go_wp2_with (fail)
  go_ret
  exact ⟨rfl, at_set' HA1.out rfl, chg_set (chg_below (chg_refl _ _) HB1.out) rfl⟩
/-- What the reader's number is: the number, the next place, the error. -/
def numR (s : ByteArray) (a lo hi : Int) : Int × Int × Int := ((Num.getS s a).1, (Num.getS s a).2.1, if (Num.getS s a).2.2 = 0 then (if (Num.getS s a).1 < lo ∨ hi < (Num.getS s a).1 then 3 else 0) else (Num.getS s a).2.2)
theorem rnum_good (zr : Nat) (s : ByteArray) (a lo hi : Int) (w : World) (hA : At w zr #[.string s, .int .i64 a] 89) (hs : s.size ≤ maxLen) (h : (numR s a lo hi).2.2 = 0) :
    Calls Try.prog 29 #[.pointer (some ⟨zr, 0, none⟩), .int .u64 lo, .int .u64 hi] w fun e w' => e = .returned (.int .u64 (numR s a lo hi).1) ∧ At w' zr #[.string s, .int .i64 (numR s a lo hi).2.1] 89 ∧ Chg (fun x => x = zr) w w' := by
  obtain ⟨n, nx, er, hg⟩ : ∃ n nx er, Num.getS s a = (n, nx, er) := ⟨_, _, _, rfl⟩
  unfold numR at h ⊢
  rw [hg] at h ⊢
  simp only [] at h ⊢
  by_cases h0 : er = 0
  · rw [if_pos h0] at h
    by_cases h1 : n < lo ∨ hi < n
    · rw [if_pos h1] at h
      cases h
    · exact rnum_ok zr s a lo hi n nx er w hA hs hg h0 (fun g => h1 (.inl g)) (fun g => h1 (.inr g))
  · rw [if_neg h0] at h
    exact absurd h h0
end Go.Proofs.Ytdjompbhlkgmbaa.Msg
end
section
/- list where there are none (own text; written by wip/tools/gen_msglist0.py). -/
namespace Go.Proofs.Ytdjompbhlkgmbaa.Msg
open Go.RowKit Go.Proofs.Ytdjompbhlkgmbaa.Mem Go.Proofs.YtdjompbhlkgmbaaW.PrintWords Go.Proofs.YtdjompbhlkgmbaaW.PrintLast Go.Proofs.YtdjompbhlkgmbaaW.PrintMore
set_option linter.unusedVariables false
set_option linter.unusedSimpArgs false
/-- A number of a text that is right there. -/
theorem rnum_is (zr : Nat) (s : ByteArray) (a lo hi n nx : Int) (h : numR s a lo hi = (n, nx, 0)) (hs : s.size ≤ maxLen) (w : World) (hA : At w zr #[.string s, .int .i64 a] 89) :
    Calls Try.prog 29 #[.pointer (some ⟨zr, 0, none⟩), .int .u64 lo, .int .u64 hi] w fun e w' => e = .returned (.int .u64 n) ∧ At w' zr #[.string s, .int .i64 nx] 89 ∧ Chg (fun x => x = zr) w w' := by
  have := rnum_good zr s a lo hi w hA hs (by rw [h])
  rw [h] at this
  exact this
set_option maxRecDepth 100000 in
theorem list0_72 (zr : Nat) (s : ByteArray) (a nx : Int) (v : Value) (h : numR s a 0 4096 = (0, nx, 0)) (hs : s.size ≤ maxLen) (w : World) (hA : At w zr #[.string s, .int .i64 a] 89) :
    Calls Try.prog 30 #[.pointer (some ⟨zr, 0, none⟩), v] w fun e w' => e = .returned (.slice none 0 0) ∧ At w' zr #[.string s, .int .i64 nx] 89 ∧ Chg (fun x => x = zr) w w' := by
  have HN := Lib.hid (rnum_is zr s a 0 4096 0 nx h hs w hA)
  clear h hA
  go_enter Try.func30, Try.ntmps30
  go_wp2_with (go_at_call 29; (with_reducible refine HN.out.mono ?_); rintro e w1 ⟨rfl, ha, hk⟩; have HA := Lib.hid ha; have HK := Lib.hid hk; clear ha hk)
  go_rounds 1
  go_ret
  exact ⟨rfl, HA.out, HK.out⟩
set_option maxRecDepth 100000 in
theorem list0_S (zr : Nat) (s : ByteArray) (a nx : Int) (v : Value) (h : numR s a 0 4096 = (0, nx, 0)) (hs : s.size ≤ maxLen) (w : World) (hA : At w zr #[.string s, .int .i64 a] 89) :
    Calls Try.prog 32 #[.pointer (some ⟨zr, 0, none⟩), v] w fun e w' => e = .returned (.slice none 0 0) ∧ At w' zr #[.string s, .int .i64 nx] 89 ∧ Chg (fun x => x = zr) w w' := by
  have HN := Lib.hid (rnum_is zr s a 0 4096 0 nx h hs w hA)
  clear h hA
  go_enter Try.func32, Try.ntmps32
  go_wp2_with (go_at_call 29; (with_reducible refine HN.out.mono ?_); rintro e w1 ⟨rfl, ha, hk⟩; have HA := Lib.hid ha; have HK := Lib.hid hk; clear ha hk)
  go_rounds 1
  go_ret
  exact ⟨rfl, HA.out, HK.out⟩
set_option maxRecDepth 100000 in
theorem list0_54 (zr : Nat) (s : ByteArray) (a nx : Int) (v : Value) (h : numR s a 0 4096 = (0, nx, 0)) (hs : s.size ≤ maxLen) (w : World) (hA : At w zr #[.string s, .int .i64 a] 89) :
    Calls Try.prog 34 #[.pointer (some ⟨zr, 0, none⟩), v] w fun e w' => e = .returned (.slice none 0 0) ∧ At w' zr #[.string s, .int .i64 nx] 89 ∧ Chg (fun x => x = zr) w w' := by
  have HN := Lib.hid (rnum_is zr s a 0 4096 0 nx h hs w hA)
  clear h hA
  go_enter Try.func34, Try.ntmps34
  go_wp2_with (go_at_call 29; (with_reducible refine HN.out.mono ?_); rintro e w1 ⟨rfl, ha, hk⟩; have HA := Lib.hid ha; have HK := Lib.hid hk; clear ha hk)
  go_rounds 1
  go_ret
  exact ⟨rfl, HA.out, HK.out⟩
set_option maxRecDepth 100000 in
theorem list0_56 (zr : Nat) (s : ByteArray) (a nx : Int) (v : Value) (h : numR s a 0 4096 = (0, nx, 0)) (hs : s.size ≤ maxLen) (w : World) (hA : At w zr #[.string s, .int .i64 a] 89) :
    Calls Try.prog 36 #[.pointer (some ⟨zr, 0, none⟩), v] w fun e w' => e = .returned (.slice none 0 0) ∧ At w' zr #[.string s, .int .i64 nx] 89 ∧ Chg (fun x => x = zr) w w' := by
  have HN := Lib.hid (rnum_is zr s a 0 4096 0 nx h hs w hA)
  clear h hA
  go_enter Try.func36, Try.ntmps36
  go_wp2_with (go_at_call 29; (with_reducible refine HN.out.mono ?_); rintro e w1 ⟨rfl, ha, hk⟩; have HA := Lib.hid ha; have HK := Lib.hid hk; clear ha hk)
  go_rounds 1
  go_ret
  exact ⟨rfl, HA.out, HK.out⟩
set_option maxRecDepth 100000 in
theorem list0_D (zr : Nat) (s : ByteArray) (a nx : Int) (v : Value) (h : numR s a 0 4096 = (0, nx, 0)) (hs : s.size ≤ maxLen) (w : World) (hA : At w zr #[.string s, .int .i64 a] 89) :
    Calls Try.prog 38 #[.pointer (some ⟨zr, 0, none⟩), v] w fun e w' => e = .returned (.slice none 0 0) ∧ At w' zr #[.string s, .int .i64 nx] 89 ∧ Chg (fun x => x = zr) w w' := by
  have HN := Lib.hid (rnum_is zr s a 0 4096 0 nx h hs w hA)
  clear h hA
  go_enter Try.func38, Try.ntmps38
  go_wp2_with (go_at_call 29; (with_reducible refine HN.out.mono ?_); rintro e w1 ⟨rfl, ha, hk⟩; have HA := Lib.hid ha; have HK := Lib.hid hk; clear ha hk)
  go_rounds 1
  go_ret
  exact ⟨rfl, HA.out, HK.out⟩
end Go.Proofs.Ytdjompbhlkgmbaa.Msg
end

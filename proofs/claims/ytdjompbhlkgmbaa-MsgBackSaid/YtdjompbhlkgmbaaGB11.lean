/- What the row needs, laid together out of PMsgx5, MsgRefMay (own texts and texts printed for this seat; wip/tools/group.py). -/
import Derived.Test.YtdjompbhlkgmbaaGB3
import Derived.Test.YtdjompbhlkgmbaaGB6
import Derived.Test.YtdjompbhlkgmbaaGB7
import Derived.Test.YtdjompbhlkgmbaaGB10
section
namespace Go.Proofs.Ytdjompbhlkgmbaa.PMsg
open Go.RowKit Go.Proofs.YtdjompbhlkgmbaaW.PrintWords Go.Proofs.YtdjompbhlkgmbaaW.PrintLast Go.Proofs.YtdjompbhlkgmbaaW.PrintMore
attribute [local go_sem] max2_int min2_int max_two min_two max_three min_three max_four min_four   -- for this text's walks alone
set_option linter.unusedVariables false
set_option linter.unusedSimpArgs false

/-! ### tattlerref22_MayNews: function 49 -/
def tattlerref22_MayNews.f (a0_0 : Int) (a0_1 : Int) (a0_2 : Int) : Option (Bool) := if a0_0 < 64 then (if a0_1 ≥ 1 then (some (decide (a0_1 ≤ 4))) else (some false)) else (some false)
set_option maxHeartbeats 8000000 in
set_option maxRecDepth 100000 in
theorem tattlerref22_MayNews.calls (a0_0 : Int) (a0_1 : Int) (a0_2 : Int) (r : Bool) (w : World) (h : tattlerref22_MayNews.f a0_0 a0_1 a0_2 = some r) :
    Calls Try.prog 49 #[.agg #[.int .u8 a0_0, .int .u8 a0_1, .int .u32 a0_2]] w fun e w' => e = .returned (.bool r) ∧ Below w.heap.size w w' := by
  have hu72 := Try.underlying72
  have HB := Aside0.mk (Below.refl w.heap.size w)
  have H : (if a0_0 < 64 then (if a0_1 ≥ 1 then (some (decide (a0_1 ≤ 4))) else (some false)) else (some false)) = some r := h
  clear h
  by_cases c2 : a0_0 < 64
  · rw [if_pos c2] at H
    have c2b0 : decide (a0_0 < 64) = true := decide_eq_true c2
    clear c2
    by_cases c3 : a0_1 ≥ 1
    · rw [if_pos c3] at H
      have c3b0 : decide (1 ≤ a0_1) = true := decide_eq_true c3
      clear c3
      obtain rfl := Option.some.inj H
      go_enter Try.func49, Try.ntmps49
      go_wp2_with (first | ((with_reducible refine gate_dst (N := 1) rfl ?_); refine box_event ?hg (N := 1) ?hd (cs := #[.int .u8 a0_0, .int .u8 a0_1, .int .u32 a0_2]) (t := 72) ?hr ?_; (case hd => rfl); (case hg => rfl); (case hr => first | (go_simp; done) | (go_simp; rfl)); intro gb106 hg w4 hbox hb; have n0_ := Aside0.mk (below_step (by repeat (first | (with_reducible first | exact HB.out | apply below_alloc | apply pw_below_drewN | apply below_drew1) | exact HB.out)) hb); have n1_ := Aside0.mk (hbox); have n2_ := Aside0.mk ((by rw [hg]; exact (below_size (by repeat (first | (with_reducible first | exact HB.out | apply below_alloc | apply pw_below_drewN | apply below_drew1) | exact HB.out))) : w.heap.size ≤ gb106)); have n3_ := Aside0.mk ((by rw [hg]; exact (below_size (by repeat (first | (with_reducible first | exact HB.out | apply below_alloc | apply pw_below_drewN | apply below_drew1) | exact HB.out))) : w.heap.size ≤ gb106)); clear HB; have HB := n0_; have BK106 := n1_; have GW106 := n2_; have GE106 := n3_; clear n0_ n1_ n2_ n3_; clear hb hbox hg; have hcz5_0 : w4.cell? ⟨gb106, 0, none⟩ = some (.int .u8 a0_0) := (blk_cell BK106.out 0).trans rfl; have hcz5_1 : w4.cell? ⟨gb106, 1, none⟩ = some (.int .u8 a0_1) := (blk_cell BK106.out 1).trans rfl; have hcz5_2 : w4.cell? ⟨gb106, 2, none⟩ = some (.int .u32 a0_2) := (blk_cell BK106.out 2).trans rfl; have hfz5_0 := blk_frozen BK106.out 0; have hfz5_1 := blk_frozen BK106.out 1; have hfz5_2 := blk_frozen BK106.out 2))
      go_ret
      exact ⟨by first | rfl | (simp [errW_none, errW_some] <;> rfl) | (simp [*, errW_none, errW_some] <;> rfl), by repeat (first | (with_reducible first | exact HB.out | apply below_alloc | apply pw_below_drewN | apply below_drew1 | refine below_set ?_ GE106.out) | exact HB.out)⟩
    · rw [if_neg c3] at H
      have c3b0 : decide (1 ≤ a0_1) = false := decide_eq_false c3
      clear c3
      obtain rfl := Option.some.inj H
      go_enter Try.func49, Try.ntmps49
      go_wp2_with (first | ((with_reducible refine gate_dst (N := 1) rfl ?_); refine box_event ?hg (N := 1) ?hd (cs := #[.int .u8 a0_0, .int .u8 a0_1, .int .u32 a0_2]) (t := 72) ?hr ?_; (case hd => rfl); (case hg => rfl); (case hr => first | (go_simp; done) | (go_simp; rfl)); intro gb106 hg w6 hbox hb; have n0_ := Aside0.mk (below_step (by repeat (first | (with_reducible first | exact HB.out | apply below_alloc | apply pw_below_drewN | apply below_drew1) | exact HB.out)) hb); have n1_ := Aside0.mk (hbox); have n2_ := Aside0.mk ((by rw [hg]; exact (below_size (by repeat (first | (with_reducible first | exact HB.out | apply below_alloc | apply pw_below_drewN | apply below_drew1) | exact HB.out))) : w.heap.size ≤ gb106)); have n3_ := Aside0.mk ((by rw [hg]; exact (below_size (by repeat (first | (with_reducible first | exact HB.out | apply below_alloc | apply pw_below_drewN | apply below_drew1) | exact HB.out))) : w.heap.size ≤ gb106)); clear HB; have HB := n0_; have BK106 := n1_; have GW106 := n2_; have GE106 := n3_; clear n0_ n1_ n2_ n3_; clear hb hbox hg; have hcz7_0 : w6.cell? ⟨gb106, 0, none⟩ = some (.int .u8 a0_0) := (blk_cell BK106.out 0).trans rfl; have hcz7_1 : w6.cell? ⟨gb106, 1, none⟩ = some (.int .u8 a0_1) := (blk_cell BK106.out 1).trans rfl; have hcz7_2 : w6.cell? ⟨gb106, 2, none⟩ = some (.int .u32 a0_2) := (blk_cell BK106.out 2).trans rfl; have hfz7_0 := blk_frozen BK106.out 0; have hfz7_1 := blk_frozen BK106.out 1; have hfz7_2 := blk_frozen BK106.out 2))
      go_ret
      exact ⟨by first | rfl | (simp [errW_none, errW_some] <;> rfl) | (simp [*, errW_none, errW_some] <;> rfl), by repeat (first | (with_reducible first | exact HB.out | apply below_alloc | apply pw_below_drewN | apply below_drew1 | refine below_set ?_ GE106.out) | exact HB.out)⟩
  · rw [if_neg c2] at H
    have c2b0 : decide (a0_0 < 64) = false := decide_eq_false c2
    clear c2
    obtain rfl := Option.some.inj H
    go_enter Try.func49, Try.ntmps49
    go_wp2_with (first | ((with_reducible refine gate_dst (N := 1) rfl ?_); refine box_event ?hg (N := 1) ?hd (cs := #[.int .u8 a0_0, .int .u8 a0_1, .int .u32 a0_2]) (t := 72) ?hr ?_; (case hd => rfl); (case hg => rfl); (case hr => first | (go_simp; done) | (go_simp; rfl)); intro gb106 hg w8 hbox hb; have n0_ := Aside0.mk (below_step (by repeat (first | (with_reducible first | exact HB.out | apply below_alloc | apply pw_below_drewN | apply below_drew1) | exact HB.out)) hb); have n1_ := Aside0.mk (hbox); have n2_ := Aside0.mk ((by rw [hg]; exact (below_size (by repeat (first | (with_reducible first | exact HB.out | apply below_alloc | apply pw_below_drewN | apply below_drew1) | exact HB.out))) : w.heap.size ≤ gb106)); have n3_ := Aside0.mk ((by rw [hg]; exact (below_size (by repeat (first | (with_reducible first | exact HB.out | apply below_alloc | apply pw_below_drewN | apply below_drew1) | exact HB.out))) : w.heap.size ≤ gb106)); clear HB; have HB := n0_; have BK106 := n1_; have GW106 := n2_; have GE106 := n3_; clear n0_ n1_ n2_ n3_; clear hb hbox hg; have hcz9_0 : w8.cell? ⟨gb106, 0, none⟩ = some (.int .u8 a0_0) := (blk_cell BK106.out 0).trans rfl; have hcz9_1 : w8.cell? ⟨gb106, 1, none⟩ = some (.int .u8 a0_1) := (blk_cell BK106.out 1).trans rfl; have hcz9_2 : w8.cell? ⟨gb106, 2, none⟩ = some (.int .u32 a0_2) := (blk_cell BK106.out 2).trans rfl; have hfz9_0 := blk_frozen BK106.out 0; have hfz9_1 := blk_frozen BK106.out 1; have hfz9_2 := blk_frozen BK106.out 2))
    go_ret
    exact ⟨by first | rfl | (simp [errW_none, errW_some] <;> rfl) | (simp [*, errW_none, errW_some] <;> rfl), by repeat (first | (with_reducible first | exact HB.out | apply below_alloc | apply pw_below_drewN | apply below_drew1 | refine below_set ?_ GE106.out) | exact HB.out)⟩

/-! ### tattlerref06_KeyMay: function 50 -/
-- NEEDS YtdjompbhlkgmbaaRecKey
def tattlerref06_KeyMay.f (a0 : ByteArray) : Option Bool := if a0.size ≤ 1000000 then some (Rec.keyMay a0) else none
theorem tattlerref06_KeyMay.calls (a0 : ByteArray) (r : Bool) (w : World) (h : tattlerref06_KeyMay.f a0 = some r) :
    Calls Try.prog 50 #[.string a0] w fun e w' => e = .returned (.bool r) ∧ Below w.heap.size w w' := by
  unfold tattlerref06_KeyMay.f at h
  split at h
  · rename_i hz
    have h3 := Option.some.inj h
    subst h3
    exact Rec.refKey_any a0 w hz
  · cases h

/-! ### tattlerref06_May: function 51 -/
-- NEEDS YtdjompbhlkgmbaaRecMayB
/-! ### tattlerref22_MaySeen: function 52 -/
def tattlerref22_MaySeen.f (a0_0 : ByteArray) (a0_1 : Int) (a0_2 : Int) (a0_3 : Int) (a0_4 : Int) : Option (Bool) := (tattlerref06_KeyMay.f a0_0).bind fun t108 => (if t108 = true then (if a0_1 ≤ 281474976710655 then (if a0_3 < 64 then (if a0_4 ≥ 1 then (some (decide (a0_4 ≤ 3))) else (some false)) else (some false)) else (some false)) else (some false))
set_option maxHeartbeats 8000000 in
set_option maxRecDepth 100000 in
theorem tattlerref22_MaySeen.calls (a0_0 : ByteArray) (a0_1 : Int) (a0_2 : Int) (a0_3 : Int) (a0_4 : Int) (r : Bool) (w : World) (h : tattlerref22_MaySeen.f a0_0 a0_1 a0_2 a0_3 a0_4 = some r) :
    Calls Try.prog 52 #[.agg #[.string a0_0, .int .u64 a0_1, .int .u32 a0_2, .int .u8 a0_3, .int .u8 a0_4]] w fun e w' => e = .returned (.bool r) ∧ Below w.heap.size w w' := by
  have hu56 := Try.underlying56
  have HB := Aside0.mk (Below.refl w.heap.size w)
  have H : ((tattlerref06_KeyMay.f a0_0).bind fun t108 => (if t108 = true then (if a0_1 ≤ 281474976710655 then (if a0_3 < 64 then (if a0_4 ≥ 1 then (some (decide (a0_4 ≤ 3))) else (some false)) else (some false)) else (some false)) else (some false))) = some r := h
  clear h
  replace H := Option.bind_eq_some_iff.mp H
  obtain ⟨t108, A20, H⟩ := H
  replace H : (if t108 = true then (if a0_1 ≤ 281474976710655 then (if a0_3 < 64 then (if a0_4 ≥ 1 then (some (decide (a0_4 ≤ 3))) else (some false)) else (some false)) else (some false)) else (some false)) = some r := H
  have A2 := Aside0.mk A20
  clear A20
  by_cases c3 : t108 = true
  · subst c3
    have H1 : (if a0_1 ≤ 281474976710655 then (if a0_3 < 64 then (if a0_4 ≥ 1 then (some (decide (a0_4 ≤ 3))) else (some false)) else (some false)) else (some false)) = some r := by rw [if_pos rfl] at H; exact H
    clear H
    have H := H1
    clear H1
    by_cases c4 : a0_1 ≤ 281474976710655
    · rw [if_pos c4] at H
      have c4b0 : decide (a0_1 ≤ 281474976710655) = true := decide_eq_true c4
      clear c4
      by_cases c5 : a0_3 < 64
      · rw [if_pos c5] at H
        have c5b0 : decide (a0_3 < 64) = true := decide_eq_true c5
        clear c5
        by_cases c6 : a0_4 ≥ 1
        · rw [if_pos c6] at H
          have c6b0 : decide (1 ≤ a0_4) = true := decide_eq_true c6
          clear c6
          obtain rfl := Option.some.inj H
          go_enter Try.func52, Try.ntmps52
          go_wp2_with (first | ((with_reducible refine gate_dst (N := 1) rfl ?_); refine box_event ?hg (N := 1) ?hd (cs := #[.string a0_0, .int .u64 a0_1, .int .u32 a0_2, .int .u8 a0_3, .int .u8 a0_4]) (t := 56) ?hr ?_; (case hd => rfl); (case hg => rfl); (case hr => first | (go_simp; done) | (go_simp; rfl)); intro gb107 hg w7 hbox hb; have n0_ := Aside0.mk (below_step (by repeat (first | (with_reducible first | exact HB.out | apply below_alloc | apply pw_below_drewN | apply below_drew1) | exact HB.out)) hb); have n1_ := Aside0.mk (hbox); have n2_ := Aside0.mk ((by rw [hg]; exact (below_size (by repeat (first | (with_reducible first | exact HB.out | apply below_alloc | apply pw_below_drewN | apply below_drew1) | exact HB.out))) : w.heap.size ≤ gb107)); have n3_ := Aside0.mk ((by rw [hg]; exact (below_size (by repeat (first | (with_reducible first | exact HB.out | apply below_alloc | apply pw_below_drewN | apply below_drew1) | exact HB.out))) : w.heap.size ≤ gb107)); clear HB; have HB := n0_; have BK107 := n1_; have GW107 := n2_; have GE107 := n3_; clear n0_ n1_ n2_ n3_; clear hb hbox hg; have hcz8_0 : w7.cell? ⟨gb107, 0, none⟩ = some (.string a0_0) := (blk_cell BK107.out 0).trans rfl; have hcz8_1 : w7.cell? ⟨gb107, 1, none⟩ = some (.int .u64 a0_1) := (blk_cell BK107.out 1).trans rfl; have hcz8_2 : w7.cell? ⟨gb107, 2, none⟩ = some (.int .u32 a0_2) := (blk_cell BK107.out 2).trans rfl; have hcz8_3 : w7.cell? ⟨gb107, 3, none⟩ = some (.int .u8 a0_3) := (blk_cell BK107.out 3).trans rfl; have hcz8_4 : w7.cell? ⟨gb107, 4, none⟩ = some (.int .u8 a0_4) := (blk_cell BK107.out 4).trans rfl; have hfz8_0 := blk_frozen BK107.out 0; have hfz8_1 := blk_frozen BK107.out 1; have hfz8_2 := blk_frozen BK107.out 2; have hfz8_3 := blk_frozen BK107.out 3; have hfz8_4 := blk_frozen BK107.out 4) | ((with_reducible refine gate_callee (f := 50) rfl ?_); refine goesL_ (some 5) rfl rfl Try.func50 (by kernel_rfl) rfl #[.string a0_0] rfl (by (try simp only [List.map_toArray, List.map_cons, List.map_nil]); first | done | rfl | (simp only [List.length_drop, List.length_take]; rfl)) ?_; (with_reducible refine (tattlerref06_KeyMay.calls a0_0 true _ A2.out).mono ?_); rintro e w9 ⟨rfl, hb⟩; refine ⟨_, rfl, ?_⟩; have n0_ := Aside0.mk (blk_below (g := gb107) (o := .cells #[.string a0_0, .int .u64 a0_1, .int .u32 a0_2, .int .u8 a0_3, .int .u8 a0_4] 56 (0, 0)) (by (with_reducible repeat (first | refine blk_drewN ?_ _ | refine blk_drew ?_ | refine blk_alloc ?_ _)); exact BK107.out) hb); have n1_ := Aside0.mk (below_step (by repeat (first | (with_reducible first | exact HB.out | apply below_alloc | apply pw_below_drewN | apply below_drew1 | refine below_set ?_ GE107.out) | exact HB.out)) hb); clear BK107; clear HB; have BK107 := n0_; have HB := n1_; clear n0_ n1_; (try clear hb); (try clear hb2); (try clear hk); (try clear hi); have hcz10_0 : w9.cell? ⟨gb107, 0, none⟩ = some (.string a0_0) := (blk_cell BK107.out 0).trans rfl; have hcz10_1 : w9.cell? ⟨gb107, 1, none⟩ = some (.int .u64 a0_1) := (blk_cell BK107.out 1).trans rfl; have hcz10_2 : w9.cell? ⟨gb107, 2, none⟩ = some (.int .u32 a0_2) := (blk_cell BK107.out 2).trans rfl; have hcz10_3 : w9.cell? ⟨gb107, 3, none⟩ = some (.int .u8 a0_3) := (blk_cell BK107.out 3).trans rfl; have hcz10_4 : w9.cell? ⟨gb107, 4, none⟩ = some (.int .u8 a0_4) := (blk_cell BK107.out 4).trans rfl; have hfz10_0 := blk_frozen BK107.out 0; have hfz10_1 := blk_frozen BK107.out 1; have hfz10_2 := blk_frozen BK107.out 2; have hfz10_3 := blk_frozen BK107.out 3; have hfz10_4 := blk_frozen BK107.out 4))
          go_ret
          exact ⟨by first | rfl | (simp [errW_none, errW_some] <;> rfl) | (simp [*, errW_none, errW_some] <;> rfl), by repeat (first | (with_reducible first | exact HB.out | apply below_alloc | apply pw_below_drewN | apply below_drew1 | refine below_set ?_ GE107.out) | exact HB.out)⟩
        · rw [if_neg c6] at H
          have c6b0 : decide (1 ≤ a0_4) = false := decide_eq_false c6
          clear c6
          obtain rfl := Option.some.inj H
          go_enter Try.func52, Try.ntmps52
          go_wp2_with (first | ((with_reducible refine gate_dst (N := 1) rfl ?_); refine box_event ?hg (N := 1) ?hd (cs := #[.string a0_0, .int .u64 a0_1, .int .u32 a0_2, .int .u8 a0_3, .int .u8 a0_4]) (t := 56) ?hr ?_; (case hd => rfl); (case hg => rfl); (case hr => first | (go_simp; done) | (go_simp; rfl)); intro gb107 hg w11 hbox hb; have n0_ := Aside0.mk (below_step (by repeat (first | (with_reducible first | exact HB.out | apply below_alloc | apply pw_below_drewN | apply below_drew1) | exact HB.out)) hb); have n1_ := Aside0.mk (hbox); have n2_ := Aside0.mk ((by rw [hg]; exact (below_size (by repeat (first | (with_reducible first | exact HB.out | apply below_alloc | apply pw_below_drewN | apply below_drew1) | exact HB.out))) : w.heap.size ≤ gb107)); have n3_ := Aside0.mk ((by rw [hg]; exact (below_size (by repeat (first | (with_reducible first | exact HB.out | apply below_alloc | apply pw_below_drewN | apply below_drew1) | exact HB.out))) : w.heap.size ≤ gb107)); clear HB; have HB := n0_; have BK107 := n1_; have GW107 := n2_; have GE107 := n3_; clear n0_ n1_ n2_ n3_; clear hb hbox hg; have hcz12_0 : w11.cell? ⟨gb107, 0, none⟩ = some (.string a0_0) := (blk_cell BK107.out 0).trans rfl; have hcz12_1 : w11.cell? ⟨gb107, 1, none⟩ = some (.int .u64 a0_1) := (blk_cell BK107.out 1).trans rfl; have hcz12_2 : w11.cell? ⟨gb107, 2, none⟩ = some (.int .u32 a0_2) := (blk_cell BK107.out 2).trans rfl; have hcz12_3 : w11.cell? ⟨gb107, 3, none⟩ = some (.int .u8 a0_3) := (blk_cell BK107.out 3).trans rfl; have hcz12_4 : w11.cell? ⟨gb107, 4, none⟩ = some (.int .u8 a0_4) := (blk_cell BK107.out 4).trans rfl; have hfz12_0 := blk_frozen BK107.out 0; have hfz12_1 := blk_frozen BK107.out 1; have hfz12_2 := blk_frozen BK107.out 2; have hfz12_3 := blk_frozen BK107.out 3; have hfz12_4 := blk_frozen BK107.out 4) | ((with_reducible refine gate_callee (f := 50) rfl ?_); refine goesL_ (some 5) rfl rfl Try.func50 (by kernel_rfl) rfl #[.string a0_0] rfl (by (try simp only [List.map_toArray, List.map_cons, List.map_nil]); first | done | rfl | (simp only [List.length_drop, List.length_take]; rfl)) ?_; (with_reducible refine (tattlerref06_KeyMay.calls a0_0 true _ A2.out).mono ?_); rintro e w13 ⟨rfl, hb⟩; refine ⟨_, rfl, ?_⟩; have n0_ := Aside0.mk (blk_below (g := gb107) (o := .cells #[.string a0_0, .int .u64 a0_1, .int .u32 a0_2, .int .u8 a0_3, .int .u8 a0_4] 56 (0, 0)) (by (with_reducible repeat (first | refine blk_drewN ?_ _ | refine blk_drew ?_ | refine blk_alloc ?_ _)); exact BK107.out) hb); have n1_ := Aside0.mk (below_step (by repeat (first | (with_reducible first | exact HB.out | apply below_alloc | apply pw_below_drewN | apply below_drew1 | refine below_set ?_ GE107.out) | exact HB.out)) hb); clear BK107; clear HB; have BK107 := n0_; have HB := n1_; clear n0_ n1_; (try clear hb); (try clear hb2); (try clear hk); (try clear hi); have hcz14_0 : w13.cell? ⟨gb107, 0, none⟩ = some (.string a0_0) := (blk_cell BK107.out 0).trans rfl; have hcz14_1 : w13.cell? ⟨gb107, 1, none⟩ = some (.int .u64 a0_1) := (blk_cell BK107.out 1).trans rfl; have hcz14_2 : w13.cell? ⟨gb107, 2, none⟩ = some (.int .u32 a0_2) := (blk_cell BK107.out 2).trans rfl; have hcz14_3 : w13.cell? ⟨gb107, 3, none⟩ = some (.int .u8 a0_3) := (blk_cell BK107.out 3).trans rfl; have hcz14_4 : w13.cell? ⟨gb107, 4, none⟩ = some (.int .u8 a0_4) := (blk_cell BK107.out 4).trans rfl; have hfz14_0 := blk_frozen BK107.out 0; have hfz14_1 := blk_frozen BK107.out 1; have hfz14_2 := blk_frozen BK107.out 2; have hfz14_3 := blk_frozen BK107.out 3; have hfz14_4 := blk_frozen BK107.out 4))
          go_ret
          exact ⟨by first | rfl | (simp [errW_none, errW_some] <;> rfl) | (simp [*, errW_none, errW_some] <;> rfl), by repeat (first | (with_reducible first | exact HB.out | apply below_alloc | apply pw_below_drewN | apply below_drew1 | refine below_set ?_ GE107.out) | exact HB.out)⟩
      · rw [if_neg c5] at H
        have c5b0 : decide (a0_3 < 64) = false := decide_eq_false c5
        clear c5
        obtain rfl := Option.some.inj H
        go_enter Try.func52, Try.ntmps52
        go_wp2_with (first | ((with_reducible refine gate_dst (N := 1) rfl ?_); refine box_event ?hg (N := 1) ?hd (cs := #[.string a0_0, .int .u64 a0_1, .int .u32 a0_2, .int .u8 a0_3, .int .u8 a0_4]) (t := 56) ?hr ?_; (case hd => rfl); (case hg => rfl); (case hr => first | (go_simp; done) | (go_simp; rfl)); intro gb107 hg w15 hbox hb; have n0_ := Aside0.mk (below_step (by repeat (first | (with_reducible first | exact HB.out | apply below_alloc | apply pw_below_drewN | apply below_drew1) | exact HB.out)) hb); have n1_ := Aside0.mk (hbox); have n2_ := Aside0.mk ((by rw [hg]; exact (below_size (by repeat (first | (with_reducible first | exact HB.out | apply below_alloc | apply pw_below_drewN | apply below_drew1) | exact HB.out))) : w.heap.size ≤ gb107)); have n3_ := Aside0.mk ((by rw [hg]; exact (below_size (by repeat (first | (with_reducible first | exact HB.out | apply below_alloc | apply pw_below_drewN | apply below_drew1) | exact HB.out))) : w.heap.size ≤ gb107)); clear HB; have HB := n0_; have BK107 := n1_; have GW107 := n2_; have GE107 := n3_; clear n0_ n1_ n2_ n3_; clear hb hbox hg; have hcz16_0 : w15.cell? ⟨gb107, 0, none⟩ = some (.string a0_0) := (blk_cell BK107.out 0).trans rfl; have hcz16_1 : w15.cell? ⟨gb107, 1, none⟩ = some (.int .u64 a0_1) := (blk_cell BK107.out 1).trans rfl; have hcz16_2 : w15.cell? ⟨gb107, 2, none⟩ = some (.int .u32 a0_2) := (blk_cell BK107.out 2).trans rfl; have hcz16_3 : w15.cell? ⟨gb107, 3, none⟩ = some (.int .u8 a0_3) := (blk_cell BK107.out 3).trans rfl; have hcz16_4 : w15.cell? ⟨gb107, 4, none⟩ = some (.int .u8 a0_4) := (blk_cell BK107.out 4).trans rfl; have hfz16_0 := blk_frozen BK107.out 0; have hfz16_1 := blk_frozen BK107.out 1; have hfz16_2 := blk_frozen BK107.out 2; have hfz16_3 := blk_frozen BK107.out 3; have hfz16_4 := blk_frozen BK107.out 4) | ((with_reducible refine gate_callee (f := 50) rfl ?_); refine goesL_ (some 5) rfl rfl Try.func50 (by kernel_rfl) rfl #[.string a0_0] rfl (by (try simp only [List.map_toArray, List.map_cons, List.map_nil]); first | done | rfl | (simp only [List.length_drop, List.length_take]; rfl)) ?_; (with_reducible refine (tattlerref06_KeyMay.calls a0_0 true _ A2.out).mono ?_); rintro e w17 ⟨rfl, hb⟩; refine ⟨_, rfl, ?_⟩; have n0_ := Aside0.mk (blk_below (g := gb107) (o := .cells #[.string a0_0, .int .u64 a0_1, .int .u32 a0_2, .int .u8 a0_3, .int .u8 a0_4] 56 (0, 0)) (by (with_reducible repeat (first | refine blk_drewN ?_ _ | refine blk_drew ?_ | refine blk_alloc ?_ _)); exact BK107.out) hb); have n1_ := Aside0.mk (below_step (by repeat (first | (with_reducible first | exact HB.out | apply below_alloc | apply pw_below_drewN | apply below_drew1 | refine below_set ?_ GE107.out) | exact HB.out)) hb); clear BK107; clear HB; have BK107 := n0_; have HB := n1_; clear n0_ n1_; (try clear hb); (try clear hb2); (try clear hk); (try clear hi); have hcz18_0 : w17.cell? ⟨gb107, 0, none⟩ = some (.string a0_0) := (blk_cell BK107.out 0).trans rfl; have hcz18_1 : w17.cell? ⟨gb107, 1, none⟩ = some (.int .u64 a0_1) := (blk_cell BK107.out 1).trans rfl; have hcz18_2 : w17.cell? ⟨gb107, 2, none⟩ = some (.int .u32 a0_2) := (blk_cell BK107.out 2).trans rfl; have hcz18_3 : w17.cell? ⟨gb107, 3, none⟩ = some (.int .u8 a0_3) := (blk_cell BK107.out 3).trans rfl; have hcz18_4 : w17.cell? ⟨gb107, 4, none⟩ = some (.int .u8 a0_4) := (blk_cell BK107.out 4).trans rfl; have hfz18_0 := blk_frozen BK107.out 0; have hfz18_1 := blk_frozen BK107.out 1; have hfz18_2 := blk_frozen BK107.out 2; have hfz18_3 := blk_frozen BK107.out 3; have hfz18_4 := blk_frozen BK107.out 4))
        go_ret
        exact ⟨by first | rfl | (simp [errW_none, errW_some] <;> rfl) | (simp [*, errW_none, errW_some] <;> rfl), by repeat (first | (with_reducible first | exact HB.out | apply below_alloc | apply pw_below_drewN | apply below_drew1 | refine below_set ?_ GE107.out) | exact HB.out)⟩
    · rw [if_neg c4] at H
      have c4b0 : decide (a0_1 ≤ 281474976710655) = false := decide_eq_false c4
      clear c4
      obtain rfl := Option.some.inj H
      go_enter Try.func52, Try.ntmps52
      go_wp2_with (first | ((with_reducible refine gate_dst (N := 1) rfl ?_); refine box_event ?hg (N := 1) ?hd (cs := #[.string a0_0, .int .u64 a0_1, .int .u32 a0_2, .int .u8 a0_3, .int .u8 a0_4]) (t := 56) ?hr ?_; (case hd => rfl); (case hg => rfl); (case hr => first | (go_simp; done) | (go_simp; rfl)); intro gb107 hg w19 hbox hb; have n0_ := Aside0.mk (below_step (by repeat (first | (with_reducible first | exact HB.out | apply below_alloc | apply pw_below_drewN | apply below_drew1) | exact HB.out)) hb); have n1_ := Aside0.mk (hbox); have n2_ := Aside0.mk ((by rw [hg]; exact (below_size (by repeat (first | (with_reducible first | exact HB.out | apply below_alloc | apply pw_below_drewN | apply below_drew1) | exact HB.out))) : w.heap.size ≤ gb107)); have n3_ := Aside0.mk ((by rw [hg]; exact (below_size (by repeat (first | (with_reducible first | exact HB.out | apply below_alloc | apply pw_below_drewN | apply below_drew1) | exact HB.out))) : w.heap.size ≤ gb107)); clear HB; have HB := n0_; have BK107 := n1_; have GW107 := n2_; have GE107 := n3_; clear n0_ n1_ n2_ n3_; clear hb hbox hg; have hcz20_0 : w19.cell? ⟨gb107, 0, none⟩ = some (.string a0_0) := (blk_cell BK107.out 0).trans rfl; have hcz20_1 : w19.cell? ⟨gb107, 1, none⟩ = some (.int .u64 a0_1) := (blk_cell BK107.out 1).trans rfl; have hcz20_2 : w19.cell? ⟨gb107, 2, none⟩ = some (.int .u32 a0_2) := (blk_cell BK107.out 2).trans rfl; have hcz20_3 : w19.cell? ⟨gb107, 3, none⟩ = some (.int .u8 a0_3) := (blk_cell BK107.out 3).trans rfl; have hcz20_4 : w19.cell? ⟨gb107, 4, none⟩ = some (.int .u8 a0_4) := (blk_cell BK107.out 4).trans rfl; have hfz20_0 := blk_frozen BK107.out 0; have hfz20_1 := blk_frozen BK107.out 1; have hfz20_2 := blk_frozen BK107.out 2; have hfz20_3 := blk_frozen BK107.out 3; have hfz20_4 := blk_frozen BK107.out 4) | ((with_reducible refine gate_callee (f := 50) rfl ?_); refine goesL_ (some 5) rfl rfl Try.func50 (by kernel_rfl) rfl #[.string a0_0] rfl (by (try simp only [List.map_toArray, List.map_cons, List.map_nil]); first | done | rfl | (simp only [List.length_drop, List.length_take]; rfl)) ?_; (with_reducible refine (tattlerref06_KeyMay.calls a0_0 true _ A2.out).mono ?_); rintro e w21 ⟨rfl, hb⟩; refine ⟨_, rfl, ?_⟩; have n0_ := Aside0.mk (blk_below (g := gb107) (o := .cells #[.string a0_0, .int .u64 a0_1, .int .u32 a0_2, .int .u8 a0_3, .int .u8 a0_4] 56 (0, 0)) (by (with_reducible repeat (first | refine blk_drewN ?_ _ | refine blk_drew ?_ | refine blk_alloc ?_ _)); exact BK107.out) hb); have n1_ := Aside0.mk (below_step (by repeat (first | (with_reducible first | exact HB.out | apply below_alloc | apply pw_below_drewN | apply below_drew1 | refine below_set ?_ GE107.out) | exact HB.out)) hb); clear BK107; clear HB; have BK107 := n0_; have HB := n1_; clear n0_ n1_; (try clear hb); (try clear hb2); (try clear hk); (try clear hi); have hcz22_0 : w21.cell? ⟨gb107, 0, none⟩ = some (.string a0_0) := (blk_cell BK107.out 0).trans rfl; have hcz22_1 : w21.cell? ⟨gb107, 1, none⟩ = some (.int .u64 a0_1) := (blk_cell BK107.out 1).trans rfl; have hcz22_2 : w21.cell? ⟨gb107, 2, none⟩ = some (.int .u32 a0_2) := (blk_cell BK107.out 2).trans rfl; have hcz22_3 : w21.cell? ⟨gb107, 3, none⟩ = some (.int .u8 a0_3) := (blk_cell BK107.out 3).trans rfl; have hcz22_4 : w21.cell? ⟨gb107, 4, none⟩ = some (.int .u8 a0_4) := (blk_cell BK107.out 4).trans rfl; have hfz22_0 := blk_frozen BK107.out 0; have hfz22_1 := blk_frozen BK107.out 1; have hfz22_2 := blk_frozen BK107.out 2; have hfz22_3 := blk_frozen BK107.out 3; have hfz22_4 := blk_frozen BK107.out 4))
      go_ret
      exact ⟨by first | rfl | (simp [errW_none, errW_some] <;> rfl) | (simp [*, errW_none, errW_some] <;> rfl), by repeat (first | (with_reducible first | exact HB.out | apply below_alloc | apply pw_below_drewN | apply below_drew1 | refine below_set ?_ GE107.out) | exact HB.out)⟩
  · replace c3 := Bool.eq_false_iff.mpr c3
    subst c3
    have H1 : (some false) = some r := by rw [if_neg (show ¬ (false = true) by decide)] at H; exact H
    clear H
    have H := H1
    clear H1
    obtain rfl := Option.some.inj H
    go_enter Try.func52, Try.ntmps52
    go_wp2_with (first | ((with_reducible refine gate_dst (N := 1) rfl ?_); refine box_event ?hg (N := 1) ?hd (cs := #[.string a0_0, .int .u64 a0_1, .int .u32 a0_2, .int .u8 a0_3, .int .u8 a0_4]) (t := 56) ?hr ?_; (case hd => rfl); (case hg => rfl); (case hr => first | (go_simp; done) | (go_simp; rfl)); intro gb107 hg w23 hbox hb; have n0_ := Aside0.mk (below_step (by repeat (first | (with_reducible first | exact HB.out | apply below_alloc | apply pw_below_drewN | apply below_drew1) | exact HB.out)) hb); have n1_ := Aside0.mk (hbox); have n2_ := Aside0.mk ((by rw [hg]; exact (below_size (by repeat (first | (with_reducible first | exact HB.out | apply below_alloc | apply pw_below_drewN | apply below_drew1) | exact HB.out))) : w.heap.size ≤ gb107)); have n3_ := Aside0.mk ((by rw [hg]; exact (below_size (by repeat (first | (with_reducible first | exact HB.out | apply below_alloc | apply pw_below_drewN | apply below_drew1) | exact HB.out))) : w.heap.size ≤ gb107)); clear HB; have HB := n0_; have BK107 := n1_; have GW107 := n2_; have GE107 := n3_; clear n0_ n1_ n2_ n3_; clear hb hbox hg; have hcz24_0 : w23.cell? ⟨gb107, 0, none⟩ = some (.string a0_0) := (blk_cell BK107.out 0).trans rfl; have hcz24_1 : w23.cell? ⟨gb107, 1, none⟩ = some (.int .u64 a0_1) := (blk_cell BK107.out 1).trans rfl; have hcz24_2 : w23.cell? ⟨gb107, 2, none⟩ = some (.int .u32 a0_2) := (blk_cell BK107.out 2).trans rfl; have hcz24_3 : w23.cell? ⟨gb107, 3, none⟩ = some (.int .u8 a0_3) := (blk_cell BK107.out 3).trans rfl; have hcz24_4 : w23.cell? ⟨gb107, 4, none⟩ = some (.int .u8 a0_4) := (blk_cell BK107.out 4).trans rfl; have hfz24_0 := blk_frozen BK107.out 0; have hfz24_1 := blk_frozen BK107.out 1; have hfz24_2 := blk_frozen BK107.out 2; have hfz24_3 := blk_frozen BK107.out 3; have hfz24_4 := blk_frozen BK107.out 4) | ((with_reducible refine gate_callee (f := 50) rfl ?_); refine goesL_ (some 5) rfl rfl Try.func50 (by kernel_rfl) rfl #[.string a0_0] rfl (by (try simp only [List.map_toArray, List.map_cons, List.map_nil]); first | done | rfl | (simp only [List.length_drop, List.length_take]; rfl)) ?_; (with_reducible refine (tattlerref06_KeyMay.calls a0_0 false _ A2.out).mono ?_); rintro e w25 ⟨rfl, hb⟩; refine ⟨_, rfl, ?_⟩; have n0_ := Aside0.mk (blk_below (g := gb107) (o := .cells #[.string a0_0, .int .u64 a0_1, .int .u32 a0_2, .int .u8 a0_3, .int .u8 a0_4] 56 (0, 0)) (by (with_reducible repeat (first | refine blk_drewN ?_ _ | refine blk_drew ?_ | refine blk_alloc ?_ _)); exact BK107.out) hb); have n1_ := Aside0.mk (below_step (by repeat (first | (with_reducible first | exact HB.out | apply below_alloc | apply pw_below_drewN | apply below_drew1 | refine below_set ?_ GE107.out) | exact HB.out)) hb); clear BK107; clear HB; have BK107 := n0_; have HB := n1_; clear n0_ n1_; (try clear hb); (try clear hb2); (try clear hk); (try clear hi)))
    go_ret
    exact ⟨by first | rfl | (simp [errW_none, errW_some] <;> rfl) | (simp [*, errW_none, errW_some] <;> rfl), by repeat (first | (with_reducible first | exact HB.out | apply below_alloc | apply pw_below_drewN | apply below_drew1 | refine below_set ?_ GE107.out) | exact HB.out)⟩

end Go.Proofs.Ytdjompbhlkgmbaa.PMsg
end
section
/- The reference's May and Pack walked (own text; written by wip/tools/gen_msgrefmay.py). -/
namespace Go.Proofs.Ytdjompbhlkgmbaa.Msg
open Go.RowKit Go.Proofs.Ytdjompbhlkgmbaa.Mem Go.Proofs.YtdjompbhlkgmbaaW.PrintWords Go.Proofs.YtdjompbhlkgmbaaW.PrintLast Go.Proofs.YtdjompbhlkgmbaaW.PrintMore Go.Proofs.Ytdjompbhlkgmbaa.PMsg
set_option linter.unusedVariables false
set_option linter.unusedSimpArgs false
theorem ifb (c : Prop) [Decidable c] (X : Bool) : ((if c then X else false) = true) ↔ (c ∧ X = true) := by
  by_cases h : c <;> simp [h]
def headP (m : M) : Prop := 1 ≤ m.kind ∧ m.kind ≤ 14 ∧ m.fr < 64 ∧ m.dst < 64 ∧ m.tg < 64 ∧ m.rg < 64
def lensP (m : M) : Prop := m.news.length ≤ 4096 ∧ m.keys.length ≤ 4096 ∧ m.recs.length ≤ 4096 ∧ m.seen.length ≤ 4096 ∧ m.digs.length ≤ 4096
theorem mayM_iff (m : M) : mayM m = true ↔ headP m ∧ lensP m ∧ m.news.all pN = true ∧ m.keys.all pK = true ∧ m.recs.all pR = true ∧ m.seen.all pS = true := by
  unfold mayM headP lensP
  simp only [ifb, allB, Bool.and_eq_true, decide_eq_true_eq]
  constructor
  · rintro ⟨h1, h2, h3, h4, h5, h6, ⟨a1, b1⟩, ⟨a2, b2⟩, ⟨a3, b3⟩, ⟨a4, b4⟩, b5⟩
    exact ⟨⟨h1, h2, h3, h4, h5, h6⟩, ⟨b1, b2, b3, b4, by omega⟩, a1, a2, a3, a4⟩
  · rintro ⟨⟨h1, h2, h3, h4, h5, h6⟩, ⟨b1, b2, b3, b4, b5⟩, a1, a2, a3, a4⟩
    exact ⟨h1, h2, h3, h4, h5, h6, ⟨a1, b1⟩, ⟨a2, b2⟩, ⟨a3, b3⟩, ⟨a4, b4⟩, by omega⟩
theorem mayM_no (m : M) (h : ¬ (headP m ∧ lensP m ∧ m.news.all pN = true ∧ m.keys.all pK = true ∧ m.recs.all pR = true ∧ m.seen.all pS = true)) : mayM m = false := by
  cases hm : mayM m
  · rfl
  · exact absurd ((mayM_iff m).1 hm) h
theorem rN_c (x : S72) (W : World) : Calls Try.prog 49 #[.agg #[.int .u8 x.f0, .int .u8 x.f1.f0, .int .u32 x.f1.f1]] W fun e w' => e = .returned (.bool (pN x)) ∧ Below W.heap.size W w' := by
  refine tattlerref22_MayNews.calls _ _ _ _ W ?_
  unfold tattlerref22_MayNews.f pN
  repeat' split
  all_goals rfl
theorem rS_c (x : S56) (W : World) (h : x.f0.size ≤ 1000000) : Calls Try.prog 52 #[.agg #[.string x.f0, .int .u64 x.f1.f0, .int .u32 x.f1.f1, .int .u8 x.f1.f2, .int .u8 x.f2]] W fun e w' => e = .returned (.bool (pS x)) ∧ Below W.heap.size W w' := by
  refine tattlerref22_MaySeen.calls _ _ _ _ _ _ W ?_
  unfold tattlerref22_MaySeen.f pS tattlerref06_KeyMay.f
  rw [if_pos h]
  simp only [Option.bind_some]
  repeat' split
  all_goals rfl
set_option maxRecDepth 100000 in
set_option maxHeartbeats 40000000 in
theorem refMay_c (m : M) (A7 : Option Addr) (g7 : Nat) (A8 : Option Addr) (g8 : Nat) (A9 : Option Addr) (g9 : Nat) (A10 : Option Addr) (g10 : Nat) (A11 : Option Addr) (g11 : Nat) (w : World) (hm : HasM m A7 g7 A8 g8 A9 g9 A10 g10 A11 g11 w) (hs : SmM m) :
    Calls Try.prog 16 #[.agg #[.int .u8 m.kind, .int .u8 m.fr, .int .u8 m.dst, .int .u32 m.id, .int .u8 m.tg, .int .u8 m.rg, .bool m.flag, .slice A7 m.news.length g7, .slice A8 m.keys.length g8, .slice A9 m.recs.length g9, .slice A10 m.seen.length g10, .slice A11 m.digs.length g11]] w fun e w' => e = .returned (.bool (mayM m)) ∧ Below w.heap.size w w' := by
  have NO := Lib.hid (mayM_no m)
  have YES := Lib.hid (mayM_iff m).2
  have HS := Lib.hid hs
  have HR7 := Lib.hid hm.r7
  have hb7 := hs.n1
  have HR8 := Lib.hid hm.r8
  have hb8 := hs.n2
  have HR9 := Lib.hid hm.r9
  have hb9 := hs.n3
  have HR10 := Lib.hid hm.r10
  have hb10 := hs.n4
  have HR11 := Lib.hid hm.r11
  have hb11 := hs.n5
  clear hs hm
  obtain ⟨n1, hn7⟩ : ∃ n, n = m.news.length := ⟨_, rfl⟩
  rw [← hn7] at hb7 ⊢
  have HN7 := Lib.hid hn7
  clear hn7
  obtain ⟨n2, hn8⟩ : ∃ n, n = m.keys.length := ⟨_, rfl⟩
  rw [← hn8] at hb8 ⊢
  have HN8 := Lib.hid hn8
  clear hn8
  obtain ⟨n3, hn9⟩ : ∃ n, n = m.recs.length := ⟨_, rfl⟩
  rw [← hn9] at hb9 ⊢
  have HN9 := Lib.hid hn9
  clear hn9
  obtain ⟨n4, hn10⟩ : ∃ n, n = m.seen.length := ⟨_, rfl⟩
  rw [← hn10] at hb10 ⊢
  have HN10 := Lib.hid hn10
  clear hn10
  obtain ⟨n5, hn11⟩ : ∃ n, n = m.digs.length := ⟨_, rfl⟩
  rw [← hn11] at hb11 ⊢
  have HN11 := Lib.hid hn11
  clear hn11
  have HB7 := Lib.hid hb7
  have HB8 := Lib.hid hb8
  have HB9 := Lib.hid hb9
  have HB10 := Lib.hid hb10
  have HB11 := Lib.hid hb11
  clear hb7 hb8 hb9 hb10 hb11
  go_enter Try.func16, Try.ntmps16
  go_upto_region 1 with (fail)
  have AZ := Lib.hid (blk_new w (.cells #[.int .u8 m.kind, .int .u8 m.fr, .int .u8 m.dst, .int .u32 m.id, .int .u8 m.tg, .int .u8 m.rg, .bool m.flag, .slice A7 n1 g7, .slice A8 n2 g8, .slice A9 n3 g9, .slice A10 n4 g10, .slice A11 n5 g11] 29))
  have HB := Lib.hid (below_alloc (Below.refl w.heap.size w) (.cells #[.int .u8 m.kind, .int .u8 m.fr, .int .u8 m.dst, .int .u32 m.id, .int .u8 m.tg, .int .u8 m.rg, .bool m.flag, .slice A7 n1 g7, .slice A8 n2 g8, .slice A9 n3 g9, .slice A10 n4 g10, .slice A11 n5 g11] 29))
  generalize w.alloc (.cells #[.int .u8 m.kind, .int .u8 m.fr, .int .u8 m.dst, .int .u32 m.id, .int .u8 m.tg, .int .u8 m.rg, .bool m.flag, .slice A7 n1 g7, .slice A8 n2 g8, .slice A9 n3 g9, .slice A10 n4 g10, .slice A11 n5 g11] 29) = w1 at *
  have ez0 : w1.cell? ⟨w.heap.size, 0, none⟩ = some (.int .u8 m.kind) := (blk_cell AZ.out 0).trans rfl
  have ez1 : w1.cell? ⟨w.heap.size, 1, none⟩ = some (.int .u8 m.fr) := (blk_cell AZ.out 1).trans rfl
  have ez2 : w1.cell? ⟨w.heap.size, 2, none⟩ = some (.int .u8 m.dst) := (blk_cell AZ.out 2).trans rfl
  have ez4 : w1.cell? ⟨w.heap.size, 4, none⟩ = some (.int .u8 m.tg) := (blk_cell AZ.out 4).trans rfl
  have ez5 : w1.cell? ⟨w.heap.size, 5, none⟩ = some (.int .u8 m.rg) := (blk_cell AZ.out 5).trans rfl
  have ez7 : w1.cell? ⟨w.heap.size, 7, none⟩ = some (.slice A7 n1 g7) := (blk_cell AZ.out 7).trans rfl
  have ez8 : w1.cell? ⟨w.heap.size, 8, none⟩ = some (.slice A8 n2 g8) := (blk_cell AZ.out 8).trans rfl
  have ez9 : w1.cell? ⟨w.heap.size, 9, none⟩ = some (.slice A9 n3 g9) := (blk_cell AZ.out 9).trans rfl
  have ez10 : w1.cell? ⟨w.heap.size, 10, none⟩ = some (.slice A10 n4 g10) := (blk_cell AZ.out 10).trans rfl
  have ez11 : w1.cell? ⟨w.heap.size, 11, none⟩ = some (.slice A11 n5 g11) := (blk_cell AZ.out 11).trans rfl
  by_cases c0 : m.kind < 1
  · have q0 : decide (m.kind < 1) = true := decide_eq_true c0
    have hv := Lib.hid (NO.out (fun h => by have := h.1; unfold headP at this; omega))
    go_wp2_with (fail)
    go_ret
    exact ⟨by rw [hv.out]; rfl, HB.out⟩
  have q0 : decide (m.kind < 1) = false := decide_eq_false c0
  by_cases c1 : 14 < m.kind
  · have q1 : decide (14 < m.kind) = true := decide_eq_true c1
    have hv := Lib.hid (NO.out (fun h => by have := h.1; unfold headP at this; omega))
    go_wp2_with (fail)
    go_ret
    exact ⟨by rw [hv.out]; rfl, HB.out⟩
  have q1 : decide (14 < m.kind) = false := decide_eq_false c1
  by_cases c2 : 63 < m.fr
  · have q2 : decide (63 < m.fr) = true := decide_eq_true c2
    have hv := Lib.hid (NO.out (fun h => by have := h.1; unfold headP at this; omega))
    go_wp2_with (fail)
    go_ret
    exact ⟨by rw [hv.out]; rfl, HB.out⟩
  have q2 : decide (63 < m.fr) = false := decide_eq_false c2
  by_cases c3 : 63 < m.dst
  · have q3 : decide (63 < m.dst) = true := decide_eq_true c3
    have hv := Lib.hid (NO.out (fun h => by have := h.1; unfold headP at this; omega))
    go_wp2_with (fail)
    go_ret
    exact ⟨by rw [hv.out]; rfl, HB.out⟩
  have q3 : decide (63 < m.dst) = false := decide_eq_false c3
  by_cases c4 : 63 < m.tg
  · have q4 : decide (63 < m.tg) = true := decide_eq_true c4
    have hv := Lib.hid (NO.out (fun h => by have := h.1; unfold headP at this; omega))
    go_wp2_with (fail)
    go_ret
    exact ⟨by rw [hv.out]; rfl, HB.out⟩
  have q4 : decide (63 < m.tg) = false := decide_eq_false c4
  by_cases c5 : 63 < m.rg
  · have q5 : decide (63 < m.rg) = true := decide_eq_true c5
    have hv := Lib.hid (NO.out (fun h => by have := h.1; unfold headP at this; omega))
    go_wp2_with (fail)
    go_ret
    exact ⟨by rw [hv.out]; rfl, HB.out⟩
  have q5 : decide (63 < m.rg) = false := decide_eq_false c5
  by_cases d0 : 4096 < (n1 : Int)
  · have r0 : decide (4096 < (n1 : Int)) = true := decide_eq_true d0
    have hv := Lib.hid (NO.out (fun h => by have := h.2.1; unfold lensP at this; have := HN7.out; omega))
    go_wp2_with (fail)
    go_ret
    exact ⟨by rw [hv.out]; rfl, HB.out⟩
  have r0 : decide (4096 < (n1 : Int)) = false := decide_eq_false d0
  by_cases d1 : 4096 < (n2 : Int)
  · have r1 : decide (4096 < (n2 : Int)) = true := decide_eq_true d1
    have hv := Lib.hid (NO.out (fun h => by have := h.2.1; unfold lensP at this; have := HN8.out; omega))
    go_wp2_with (fail)
    go_ret
    exact ⟨by rw [hv.out]; rfl, HB.out⟩
  have r1 : decide (4096 < (n2 : Int)) = false := decide_eq_false d1
  by_cases d2 : 4096 < (n3 : Int)
  · have r2 : decide (4096 < (n3 : Int)) = true := decide_eq_true d2
    have hv := Lib.hid (NO.out (fun h => by have := h.2.1; unfold lensP at this; have := HN9.out; omega))
    go_wp2_with (fail)
    go_ret
    exact ⟨by rw [hv.out]; rfl, HB.out⟩
  have r2 : decide (4096 < (n3 : Int)) = false := decide_eq_false d2
  by_cases d3 : 4096 < (n4 : Int)
  · have r3 : decide (4096 < (n4 : Int)) = true := decide_eq_true d3
    have hv := Lib.hid (NO.out (fun h => by have := h.2.1; unfold lensP at this; have := HN10.out; omega))
    go_wp2_with (fail)
    go_ret
    exact ⟨by rw [hv.out]; rfl, HB.out⟩
  have r3 : decide (4096 < (n4 : Int)) = false := decide_eq_false d3
  by_cases d4 : 4096 < (n5 : Int)
  · have r4 : decide (4096 < (n5 : Int)) = true := decide_eq_true d4
    have hv := Lib.hid (NO.out (fun h => by have := h.2.1; unfold lensP at this; have := HN11.out; omega))
    go_wp2_with (fail)
    go_ret
    exact ⟨by rw [hv.out]; rfl, HB.out⟩
  have r4 : decide (4096 < (n5 : Int)) = false := decide_eq_false d4
  have HH := Lib.hid (show headP m ∧ lensP m from by
    have := HN7.out
    have := HN8.out
    have := HN9.out
    have := HN10.out
    have := HN11.out
    unfold headP lensP
    omega)
  clear c0 c1 c2 c3 c4 c5 d0 d1 d2 d3 d4
  go_wp2_with (fail)
  go_loopw [66] (fun v66 w' => ∃ (i : Nat) (y : Int), i ≤ n1 ∧ v66 = .int .i64 y ∧ Hid (y = (i : Int)) ∧ Hid ((m.news.take i).all pN = true) ∧ Hid (w'.heap[w.heap.size]? = some (.cells #[.int .u8 m.kind, .int .u8 m.fr, .int .u8 m.dst, .int .u32 m.id, .int .u8 m.tg, .int .u8 m.rg, .bool m.flag, .slice A7 n1 g7, .slice A8 n2 g8, .slice A9 n3 g9, .slice A10 n4 g10, .slice A11 n5 g11] 29 (0, 0))) ∧ Hid (Below w.heap.size w w')) (fun v _ => n1 - (intOf v).toNat)
  case atStart => exact ⟨0, 0, Nat.zero_le _, rfl, Lib.hid rfl, Lib.hid rfl, AZ, HB⟩
  case round =>
    clear AZ HB
    obtain ⟨i, y, hi, rfl, HY, HA, AZ, HB⟩ := hrel
    have ew : wr.cell? ⟨w.heap.size, 7, none⟩ = some (.slice A7 n1 g7) := (blk_cell AZ.out 7).trans rfl
    by_cases hlt : i < n1
    · have hil : i < m.news.length := by rw [← HN7.out]; exact hlt
      have p157 : 0 ≤ y := by have := HY.out; omega
      have q157 : y < (n1 : Int) := by have := HY.out; omega
      have vj : IntKind.i64.wrap (y + 1) = y + 1 := IntWalk.i64_in _ ⟨by omega, by have := HB7.out; omega⟩
      obtain ⟨ad, e157, hx0, hx1, hx2⟩ := at_T72 HR7.out y p157 (by rw [← HN7.out]; exact q157)
      cases e157
      replace hx0 := (HB.out.cell (World.block_lt_of_cell? w _ hx0)).trans hx0
      replace hx1 := (HB.out.cell (World.block_lt_of_cell? w _ hx1)).trans hx1
      replace hx2 := (HB.out.cell (World.block_lt_of_cell? w _ hx2)).trans hx2
      have e0 : rd_T72 m.news y = m.news[i] := by
        rw [show y = (i : Int) from HY.out]
        unfold rd_T72
        rw [Int.toNat_natCast, List.getD_eq_getElem?_getD, List.getElem?_eq_getElem hil]
        rfl
      have HX := Lib.hid (show _ from HS.out.news _ (List.getElem_mem hil))
      have HA1 := Lib.hid (show (m.news.take (i + 1)).all pN = pN m.news[i] from by
        rw [List.take_succ_eq_append_getElem hil, List.all_append, HA.out]
        simp)
      have HA2 := Lib.hid (show pN m.news[i] = false → mayM m = false from fun h => NO.out (fun g => by
        have h1 := List.all_eq_true.1 g.2.2.1 _ (List.getElem_mem hil)
        rw [h] at h1
        cases h1))
      rw [← e0] at HX HA1 HA2
      clear e0 hil HA
      generalize rd_T72 m.news y = x at *
      have CP := Lib.hid (show ∀ W : World, Calls Try.prog 49 #[.agg #[.int .u8 x.f0, .int .u8 x.f1.f0, .int .u32 x.f1.f1]] W fun e w' => e = .returned (.bool (pN x)) ∧ Below W.heap.size W w' from fun W => rN_c x W)
      have hq0 : (0 ≤ y) = True := eq_true p157
      have hq1 : (y < (n1 : Int)) = True := eq_true q157
      cases hpx : pN x
      · rw [hpx] at CP
        have HV := Lib.hid (HA2.out hpx)
        clear HA1 HA2 hpx
        go_wp2_with (go_at_call 49; (with_reducible refine (CP.out _).mono ?_); rintro e w3 ⟨rfl, hb3⟩; have HB3 := Lib.hid (below_step HB.out hb3); clear hb3 HB)
        go_ret
        exact ⟨by rw [HV.out]; rfl, HB3.out⟩
      · rw [hpx] at CP HA1
        clear HA2 hpx
        go_wp2_with (go_at_call 49; (with_reducible refine (CP.out _).mono ?_); rintro e w3 ⟨rfl, hb3⟩; have HB3 := Lib.hid (below_step HB.out hb3); have AZ3 := Lib.hid (blk_below AZ.out hb3); clear hb3 HB)
        exact ⟨⟨i + 1, y + 1, by omega, rfl, Lib.hid (by have := HY.out; omega), HA1, AZ3, HB3⟩, by have := HY.out; simp [intOf]; omega⟩
    · have hie : i = n1 := by omega
      have hq2 : decide (y < (n1 : Int)) = false := decide_eq_false (by have := HY.out; omega)
      have HA7 := Lib.hid (show m.news.all pN = true from by
        have h1 := HA.out
        rw [hie, HN7.out, List.take_length] at h1
        exact h1)
      clear hie hi hlt HY HA ew
      have ev : wr.cell? ⟨w.heap.size, 8, none⟩ = some (.slice A8 n2 g8) := (blk_cell AZ.out 8).trans rfl
      go_wp2_with (fail)
      clear ev
      go_loopw [80] (fun v80 w' => ∃ (i : Nat) (y : Int), i ≤ n2 ∧ v80 = .int .i64 y ∧ Hid (y = (i : Int)) ∧ Hid ((m.keys.take i).all pK = true) ∧ Hid (w'.heap[w.heap.size]? = some (.cells #[.int .u8 m.kind, .int .u8 m.fr, .int .u8 m.dst, .int .u32 m.id, .int .u8 m.tg, .int .u8 m.rg, .bool m.flag, .slice A7 n1 g7, .slice A8 n2 g8, .slice A9 n3 g9, .slice A10 n4 g10, .slice A11 n5 g11] 29 (0, 0))) ∧ Hid (Below w.heap.size w w')) (fun v _ => n2 - (intOf v).toNat)
      case atStart => exact ⟨0, 0, Nat.zero_le _, rfl, Lib.hid rfl, Lib.hid rfl, AZ, HB⟩
      case round =>
        clear AZ HB
        obtain ⟨i, y, hi, rfl, HY, HA, AZ, HB⟩ := hrel
        have ew : wr.cell? ⟨w.heap.size, 8, none⟩ = some (.slice A8 n2 g8) := (blk_cell AZ.out 8).trans rfl
        by_cases hlt : i < n2
        · have hil : i < m.keys.length := by rw [← HN8.out]; exact hlt
          have p157 : 0 ≤ y := by have := HY.out; omega
          have q157 : y < (n2 : Int) := by have := HY.out; omega
          have vj : IntKind.i64.wrap (y + 1) = y + 1 := IntWalk.i64_in _ ⟨by omega, by have := HB8.out; omega⟩
          obtain ⟨ad, e157, hx0⟩ := Kd.at_string HR8.out y p157 (by rw [← HN8.out]; exact q157)
          cases e157
          replace hx0 := (HB.out.cell (World.block_lt_of_cell? w _ hx0)).trans hx0
          have e0 : rdOf ByteArray.empty m.keys y = m.keys[i] := by
            rw [show y = (i : Int) from HY.out]
            unfold rdOf
            rw [Int.toNat_natCast, List.getD_eq_getElem?_getD, List.getElem?_eq_getElem hil]
            rfl
          have HX := Lib.hid (show _ from HS.out.keys _ (List.getElem_mem hil))
          have HA1 := Lib.hid (show (m.keys.take (i + 1)).all pK = pK m.keys[i] from by
            rw [List.take_succ_eq_append_getElem hil, List.all_append, HA.out]
            simp)
          have HA2 := Lib.hid (show pK m.keys[i] = false → mayM m = false from fun h => NO.out (fun g => by
            have h1 := List.all_eq_true.1 g.2.2.2.1 _ (List.getElem_mem hil)
            rw [h] at h1
            cases h1))
          rw [← e0] at HX HA1 HA2
          clear e0 hil HA
          generalize rdOf ByteArray.empty m.keys y = x at *
          have CP := Lib.hid (show ∀ W : World, Calls Try.prog 50 #[.string x] W fun e w' => e = .returned (.bool (pK x)) ∧ Below W.heap.size W w' from fun W => Rec.refKey_any x W (by have := HX.out; omega))
          have hq0 : (0 ≤ y) = True := eq_true p157
          have hq1 : (y < (n2 : Int)) = True := eq_true q157
          cases hpx : pK x
          · rw [hpx] at CP
            have HV := Lib.hid (HA2.out hpx)
            clear HA1 HA2 hpx
            go_wp2_with (go_at_call 50; (with_reducible refine (CP.out _).mono ?_); rintro e w3 ⟨rfl, hb3⟩; have HB3 := Lib.hid (below_step HB.out hb3); clear hb3 HB)
            go_ret
            exact ⟨by rw [HV.out]; rfl, HB3.out⟩
          · rw [hpx] at CP HA1
            clear HA2 hpx
            go_wp2_with (go_at_call 50; (with_reducible refine (CP.out _).mono ?_); rintro e w3 ⟨rfl, hb3⟩; have HB3 := Lib.hid (below_step HB.out hb3); have AZ3 := Lib.hid (blk_below AZ.out hb3); clear hb3 HB)
            exact ⟨⟨i + 1, y + 1, by omega, rfl, Lib.hid (by have := HY.out; omega), HA1, AZ3, HB3⟩, by have := HY.out; simp [intOf]; omega⟩
        · have hie : i = n2 := by omega
          have hq2 : decide (y < (n2 : Int)) = false := decide_eq_false (by have := HY.out; omega)
          have HA8 := Lib.hid (show m.keys.all pK = true from by
            have h1 := HA.out
            rw [hie, HN8.out, List.take_length] at h1
            exact h1)
          clear hie hi hlt HY HA ew
          have ev : wr.cell? ⟨w.heap.size, 9, none⟩ = some (.slice A9 n3 g9) := (blk_cell AZ.out 9).trans rfl
          go_wp2_with (fail)
          clear ev
          go_loopw [94] (fun v94 w' => ∃ (i : Nat) (y : Int), i ≤ n3 ∧ v94 = .int .i64 y ∧ Hid (y = (i : Int)) ∧ Hid ((m.recs.take i).all pR = true) ∧ Hid (w'.heap[w.heap.size]? = some (.cells #[.int .u8 m.kind, .int .u8 m.fr, .int .u8 m.dst, .int .u32 m.id, .int .u8 m.tg, .int .u8 m.rg, .bool m.flag, .slice A7 n1 g7, .slice A8 n2 g8, .slice A9 n3 g9, .slice A10 n4 g10, .slice A11 n5 g11] 29 (0, 0))) ∧ Hid (Below w.heap.size w w')) (fun v _ => n3 - (intOf v).toNat)
          case atStart => exact ⟨0, 0, Nat.zero_le _, rfl, Lib.hid rfl, Lib.hid rfl, AZ, HB⟩
          case round =>
            clear AZ HB
            obtain ⟨i, y, hi, rfl, HY, HA, AZ, HB⟩ := hrel
            have ew : wr.cell? ⟨w.heap.size, 9, none⟩ = some (.slice A9 n3 g9) := (blk_cell AZ.out 9).trans rfl
            by_cases hlt : i < n3
            · have hil : i < m.recs.length := by rw [← HN9.out]; exact hlt
              have p157 : 0 ≤ y := by have := HY.out; omega
              have q157 : y < (n3 : Int) := by have := HY.out; omega
              have vj : IntKind.i64.wrap (y + 1) = y + 1 := IntWalk.i64_in _ ⟨by omega, by have := HB9.out; omega⟩
              obtain ⟨ad, e157, hx0, hx1, hx2, hx3, hx4, hx5, hx6, hx7⟩ := at_T54 HR9.out y p157 (by rw [← HN9.out]; exact q157)
              cases e157
              replace hx0 := (HB.out.cell (World.block_lt_of_cell? w _ hx0)).trans hx0
              replace hx1 := (HB.out.cell (World.block_lt_of_cell? w _ hx1)).trans hx1
              replace hx2 := (HB.out.cell (World.block_lt_of_cell? w _ hx2)).trans hx2
              replace hx3 := (HB.out.cell (World.block_lt_of_cell? w _ hx3)).trans hx3
              replace hx4 := (HB.out.cell (World.block_lt_of_cell? w _ hx4)).trans hx4
              replace hx5 := (HB.out.cell (World.block_lt_of_cell? w _ hx5)).trans hx5
              replace hx6 := (HB.out.cell (World.block_lt_of_cell? w _ hx6)).trans hx6
              replace hx7 := (HB.out.cell (World.block_lt_of_cell? w _ hx7)).trans hx7
              have e0 : rd_T54 m.recs y = m.recs[i] := by
                rw [show y = (i : Int) from HY.out]
                unfold rd_T54
                rw [Int.toNat_natCast, List.getD_eq_getElem?_getD, List.getElem?_eq_getElem hil]
                rfl
              have HX := Lib.hid (show _ from HS.out.recs _ (List.getElem_mem hil))
              have HA1 := Lib.hid (show (m.recs.take (i + 1)).all pR = pR m.recs[i] from by
                rw [List.take_succ_eq_append_getElem hil, List.all_append, HA.out]
                simp)
              have HA2 := Lib.hid (show pR m.recs[i] = false → mayM m = false from fun h => NO.out (fun g => by
                have h1 := List.all_eq_true.1 g.2.2.2.2.1 _ (List.getElem_mem hil)
                rw [h] at h1
                cases h1))
              rw [← e0] at HX HA1 HA2
              clear e0 hil HA
              generalize rd_T54 m.recs y = x at *
              have CP := Lib.hid (show ∀ W : World, Calls Try.prog 51 #[.agg #[.string x.f0, .int .u64 x.f1.f0, .int .u32 x.f1.f1, .int .u8 x.f1.f2, .int .u8 x.f2, .int .u32 x.f3, .int .u64 x.f4, .string x.f5]] W fun e w' => e = .returned (.bool (pR x)) ∧ Below W.heap.size W w' from fun W => Rec.refMay_any x.f0 x.f1.f0 x.f1.f1 x.f1.f2 x.f2 x.f3 x.f4 x.f5 W (by have := HX.out.1.1; omega))
              have hq0 : (0 ≤ y) = True := eq_true p157
              have hq1 : (y < (n3 : Int)) = True := eq_true q157
              cases hpx : pR x
              · rw [hpx] at CP
                have HV := Lib.hid (HA2.out hpx)
                clear HA1 HA2 hpx
                go_wp2_with (go_at_call 51; (with_reducible refine (CP.out _).mono ?_); rintro e w3 ⟨rfl, hb3⟩; have HB3 := Lib.hid (below_step HB.out hb3); clear hb3 HB)
                go_ret
                exact ⟨by rw [HV.out]; rfl, HB3.out⟩
              · rw [hpx] at CP HA1
                clear HA2 hpx
                go_wp2_with (go_at_call 51; (with_reducible refine (CP.out _).mono ?_); rintro e w3 ⟨rfl, hb3⟩; have HB3 := Lib.hid (below_step HB.out hb3); have AZ3 := Lib.hid (blk_below AZ.out hb3); clear hb3 HB)
                exact ⟨⟨i + 1, y + 1, by omega, rfl, Lib.hid (by have := HY.out; omega), HA1, AZ3, HB3⟩, by have := HY.out; simp [intOf]; omega⟩
            · have hie : i = n3 := by omega
              have hq2 : decide (y < (n3 : Int)) = false := decide_eq_false (by have := HY.out; omega)
              have HA9 := Lib.hid (show m.recs.all pR = true from by
                have h1 := HA.out
                rw [hie, HN9.out, List.take_length] at h1
                exact h1)
              clear hie hi hlt HY HA ew
              have ev : wr.cell? ⟨w.heap.size, 10, none⟩ = some (.slice A10 n4 g10) := (blk_cell AZ.out 10).trans rfl
              go_wp2_with (fail)
              clear ev
              go_loopw [108] (fun v108 w' => ∃ (i : Nat) (y : Int), i ≤ n4 ∧ v108 = .int .i64 y ∧ Hid (y = (i : Int)) ∧ Hid ((m.seen.take i).all pS = true) ∧ Hid (w'.heap[w.heap.size]? = some (.cells #[.int .u8 m.kind, .int .u8 m.fr, .int .u8 m.dst, .int .u32 m.id, .int .u8 m.tg, .int .u8 m.rg, .bool m.flag, .slice A7 n1 g7, .slice A8 n2 g8, .slice A9 n3 g9, .slice A10 n4 g10, .slice A11 n5 g11] 29 (0, 0))) ∧ Hid (Below w.heap.size w w')) (fun v _ => n4 - (intOf v).toNat)
              case atStart => exact ⟨0, 0, Nat.zero_le _, rfl, Lib.hid rfl, Lib.hid rfl, AZ, HB⟩
              case round =>
                clear AZ HB
                obtain ⟨i, y, hi, rfl, HY, HA, AZ, HB⟩ := hrel
                have ew : wr.cell? ⟨w.heap.size, 10, none⟩ = some (.slice A10 n4 g10) := (blk_cell AZ.out 10).trans rfl
                by_cases hlt : i < n4
                · have hil : i < m.seen.length := by rw [← HN10.out]; exact hlt
                  have p157 : 0 ≤ y := by have := HY.out; omega
                  have q157 : y < (n4 : Int) := by have := HY.out; omega
                  have vj : IntKind.i64.wrap (y + 1) = y + 1 := IntWalk.i64_in _ ⟨by omega, by have := HB10.out; omega⟩
                  obtain ⟨ad, e157, hx0, hx1, hx2, hx3, hx4⟩ := at_T56 HR10.out y p157 (by rw [← HN10.out]; exact q157)
                  cases e157
                  replace hx0 := (HB.out.cell (World.block_lt_of_cell? w _ hx0)).trans hx0
                  replace hx1 := (HB.out.cell (World.block_lt_of_cell? w _ hx1)).trans hx1
                  replace hx2 := (HB.out.cell (World.block_lt_of_cell? w _ hx2)).trans hx2
                  replace hx3 := (HB.out.cell (World.block_lt_of_cell? w _ hx3)).trans hx3
                  replace hx4 := (HB.out.cell (World.block_lt_of_cell? w _ hx4)).trans hx4
                  have e0 : rd_T56 m.seen y = m.seen[i] := by
                    rw [show y = (i : Int) from HY.out]
                    unfold rd_T56
                    rw [Int.toNat_natCast, List.getD_eq_getElem?_getD, List.getElem?_eq_getElem hil]
                    rfl
                  have HX := Lib.hid (show _ from HS.out.seen _ (List.getElem_mem hil))
                  have HA1 := Lib.hid (show (m.seen.take (i + 1)).all pS = pS m.seen[i] from by
                    rw [List.take_succ_eq_append_getElem hil, List.all_append, HA.out]
                    simp)
                  have HA2 := Lib.hid (show pS m.seen[i] = false → mayM m = false from fun h => NO.out (fun g => by
                    have h1 := List.all_eq_true.1 g.2.2.2.2.2 _ (List.getElem_mem hil)
                    rw [h] at h1
                    cases h1))
                  rw [← e0] at HX HA1 HA2
                  clear e0 hil HA
                  generalize rd_T56 m.seen y = x at *
                  have CP := Lib.hid (show ∀ W : World, Calls Try.prog 52 #[.agg #[.string x.f0, .int .u64 x.f1.f0, .int .u32 x.f1.f1, .int .u8 x.f1.f2, .int .u8 x.f2]] W fun e w' => e = .returned (.bool (pS x)) ∧ Below W.heap.size W w' from fun W => rS_c x W (by have := HX.out.1; omega))
                  have hq0 : (0 ≤ y) = True := eq_true p157
                  have hq1 : (y < (n4 : Int)) = True := eq_true q157
                  cases hpx : pS x
                  · rw [hpx] at CP
                    have HV := Lib.hid (HA2.out hpx)
                    clear HA1 HA2 hpx
                    go_wp2_with (go_at_call 52; (with_reducible refine (CP.out _).mono ?_); rintro e w3 ⟨rfl, hb3⟩; have HB3 := Lib.hid (below_step HB.out hb3); clear hb3 HB)
                    go_ret
                    exact ⟨by rw [HV.out]; rfl, HB3.out⟩
                  · rw [hpx] at CP HA1
                    clear HA2 hpx
                    go_wp2_with (go_at_call 52; (with_reducible refine (CP.out _).mono ?_); rintro e w3 ⟨rfl, hb3⟩; have HB3 := Lib.hid (below_step HB.out hb3); have AZ3 := Lib.hid (blk_below AZ.out hb3); clear hb3 HB)
                    exact ⟨⟨i + 1, y + 1, by omega, rfl, Lib.hid (by have := HY.out; omega), HA1, AZ3, HB3⟩, by have := HY.out; simp [intOf]; omega⟩
                · have hie : i = n4 := by omega
                  have hq2 : decide (y < (n4 : Int)) = false := decide_eq_false (by have := HY.out; omega)
                  have HA10 := Lib.hid (show m.seen.all pS = true from by
                    have h1 := HA.out
                    rw [hie, HN10.out, List.take_length] at h1
                    exact h1)
                  clear hie hi hlt HY HA ew
                  go_wp2_with (fail)
                  go_ret
                  exact ⟨by rw [YES.out ⟨HH.out.1, HH.out.2, HA7.out, HA8.out, HA9.out, HA10.out⟩]; rfl, HB.out⟩
end Go.Proofs.Ytdjompbhlkgmbaa.Msg
end

/- The printed text PSayx8, mended: the table of tens is asked for (wip/tools/fixsay.py). -/
-- Printed by a program of this session over its told contracts; Lean checks it.
import Derived.Test.YtbgoedhpndflpaaDoorPSayx0
import Derived.Test.YtbgoedhpndflpaaDoorPSayx1
import Derived.Test.YtbgoedhpndflpaaDoorSayQ7
namespace Go.Proofs.YtbgoedhpndflpaaDoor.PSay
open Go.RowKit Go.Proofs.YtbgoedhpndflpaaDoorW.PrintWords Go.Proofs.YtbgoedhpndflpaaDoorW.PrintLast Go.Proofs.YtbgoedhpndflpaaDoorW.PrintMore
attribute [local go_sem] max2_int min2_int max_two min_two max_three min_three max_four min_four   -- for this text's walks alone
set_option linter.unusedVariables false
set_option linter.unusedSimpArgs false

attribute [local go_sem high] eqA30
/-! ### tattlerref06_May: function 8 -/
def tattlerref06_May.j0 : Nat → Bool → ByteArray → Int → Int → Int → Int → Int → Int → ByteArray → Option (Bool)
  | 0, _, _, _, _, _, _, _, _, _ => none
  | k + 1, x29, x171000, x171001, x171002, x171003, x171004, x171005, x171006, x171007 => if x29 = true then (some false) else (if x171004 = 1 then (if x171005 = 0 then (if x171006 = 0 then (some (x171007.toList == ([] : List UInt8))) else (some false)) else (some false)) else (if x171004 = 2 then (if x171005 = 0 then (if x171006 = 0 then (some (x171007.toList == ([] : List UInt8))) else (some false)) else (some false)) else (some (x171004 == 3))))
def tattlerref06_May.f (k : Nat) (a0_0 : ByteArray) (a0_1 : Int) (a0_2 : Int) (a0_3 : Int) (a0_4 : Int) (a0_5 : Int) (a0_6 : Int) (a0_7 : ByteArray) : Option (Bool) := (tattlerref06_KeyMay.f k a0_0).bind fun t171 => (if t171 = true then (if a0_1 > 281474976710655 then (tattlerref06_May.j0 k true a0_0 a0_1 a0_2 a0_3 a0_4 a0_5 a0_6 a0_7) else (if a0_3 > 63 then (tattlerref06_May.j0 k true a0_0 a0_1 a0_2 a0_3 a0_4 a0_5 a0_6 a0_7) else (if a0_6 > 281474976710655 then (tattlerref06_May.j0 k true a0_0 a0_1 a0_2 a0_3 a0_4 a0_5 a0_6 a0_7) else (tattlerref06_May.j0 k (decide ((a0_7.size : Int) > 1024)) a0_0 a0_1 a0_2 a0_3 a0_4 a0_5 a0_6 a0_7)))) else (tattlerref06_May.j0 k true a0_0 a0_1 a0_2 a0_3 a0_4 a0_5 a0_6 a0_7))
theorem tattlerref06_May.mono_l : ∀ k, (∀ y0 y1 y2 y3 y4 y5 y6 y7 y8, LeO (tattlerref06_May.j0 k y0 y1 y2 y3 y4 y5 y6 y7 y8) (tattlerref06_May.j0 (k + 1) y0 y1 y2 y3 y4 y5 y6 y7 y8))
  | 0 => fun _ _ _ _ _ _ _ _ _ r h => by simp [tattlerref06_May.j0] at h
  | k + 1 => by
    have ih0 := tattlerref06_May.mono_l k
    · intro y0 y1 y2 y3 y4 y5 y6 y7 y8
      unfold tattlerref06_May.j0
      repeat' first
      | (with_reducible exact ih0 _ _ _ _ _ _ _ _ _)
      | (with_reducible exact tattlerref06_KeyMay.mono _ _)
      | (with_reducible exact LeO.refl _)
      | (with_reducible exact LeO.none _)
      | (with_reducible refine LeO.ite ?_ ?_)
      | (with_reducible refine LeO.bind ?_ (fun _ => ?_))
      | exact ih0 _ _ _ _ _ _ _ _ _
      | exact tattlerref06_KeyMay.mono _ _
      | exact LeO.none _
      | refine LeO.ite ?_ ?_
      | refine LeO.bind ?_ (fun _ => ?_)
theorem tattlerref06_May.mono : ∀ a0 a1 a2 a3 a4 a5 a6 a7 k, LeO (tattlerref06_May.f k a0 a1 a2 a3 a4 a5 a6 a7) (tattlerref06_May.f (k + 1) a0 a1 a2 a3 a4 a5 a6 a7) := by
  intro a0 a1 a2 a3 a4 a5 a6 a7 k
  have ih0 := tattlerref06_May.mono_l k
  unfold tattlerref06_May.f
  repeat' first
      | (with_reducible exact ih0 _ _ _ _ _ _ _ _ _)
      | (with_reducible exact tattlerref06_KeyMay.mono _ _)
      | (with_reducible exact LeO.refl _)
      | (with_reducible exact LeO.none _)
      | (with_reducible refine LeO.ite ?_ ?_)
      | (with_reducible refine LeO.bind ?_ (fun _ => ?_))
      | exact ih0 _ _ _ _ _ _ _ _ _
      | exact tattlerref06_KeyMay.mono _ _
      | exact LeO.none _
      | refine LeO.ite ?_ ?_
      | refine LeO.bind ?_ (fun _ => ?_)
set_option maxHeartbeats 8000000 in
set_option maxRecDepth 100000 in
theorem tattlerref06_May.calls (k : Nat) (a0_0 : ByteArray) (a0_1 : Int) (a0_2 : Int) (a0_3 : Int) (a0_4 : Int) (a0_5 : Int) (a0_6 : Int) (a0_7 : ByteArray) (r : Bool) (w : World) (h : tattlerref06_May.f k a0_0 a0_1 a0_2 a0_3 a0_4 a0_5 a0_6 a0_7 = some r) :
    Calls Tryd.prog 8 #[.agg #[.string a0_0, .int .u64 a0_1, .int .u32 a0_2, .int .u8 a0_3, .int .u8 a0_4, .int .u32 a0_5, .int .u64 a0_6, .string a0_7]] w fun e w' => e = .returned (.bool r) ∧ Below w.heap.size w w' := by
  have hu30 := Tryd.underlying30
  have HB := Aside0.mk (Below.refl w.heap.size w)
  have H : ((tattlerref06_KeyMay.f k a0_0).bind fun t171 => (if t171 = true then (if a0_1 > 281474976710655 then (tattlerref06_May.j0 k true a0_0 a0_1 a0_2 a0_3 a0_4 a0_5 a0_6 a0_7) else (if a0_3 > 63 then (tattlerref06_May.j0 k true a0_0 a0_1 a0_2 a0_3 a0_4 a0_5 a0_6 a0_7) else (if a0_6 > 281474976710655 then (tattlerref06_May.j0 k true a0_0 a0_1 a0_2 a0_3 a0_4 a0_5 a0_6 a0_7) else (tattlerref06_May.j0 k (decide ((a0_7.size : Int) > 1024)) a0_0 a0_1 a0_2 a0_3 a0_4 a0_5 a0_6 a0_7)))) else (tattlerref06_May.j0 k true a0_0 a0_1 a0_2 a0_3 a0_4 a0_5 a0_6 a0_7))) = some r := h
  clear h
  have HC2 := Aside0.mk H
  clear H
  go_enter Tryd.func8, Tryd.ntmps8
  go_upto_region 1 with (first | ((with_reducible refine gate_dst (N := 1) rfl ?_); (try (refine gate_guard (by rfl) ?_; dsimp only)); refine box_event ?hg (N := 1) ?hd (cs := #[.string a0_0, .int .u64 a0_1, .int .u32 a0_2, .int .u8 a0_3, .int .u8 a0_4, .int .u32 a0_5, .int .u64 a0_6, .string a0_7]) (t := 30) ?hr ?_; (case hd => rfl); (case hg => rfl); (case hr => first | (go_simp; done) | (go_simp; rfl)); intro gb170 hg w3 hbox hb; have n0_ := Aside0.mk (below_step (by repeat (first | (with_reducible first | exact HB.out | apply below_alloc | apply pw_below_drewN | apply below_drew1) | exact HB.out)) hb); have n1_ := Aside0.mk (hbox); have n2_ := Aside0.mk ((by rw [hg]; exact (below_size (by repeat (first | (with_reducible first | exact HB.out | apply below_alloc | apply pw_below_drewN | apply below_drew1) | exact HB.out))) : w.heap.size ≤ gb170)); have n3_ := Aside0.mk ((by rw [hg]; exact (below_size (by repeat (first | (with_reducible first | exact HB.out | apply below_alloc | apply pw_below_drewN | apply below_drew1) | exact HB.out))) : w.heap.size ≤ gb170)); clear HB; have HB := n0_; have BK170 := n1_; have GW170 := n2_; have GE170 := n3_; clear n0_ n1_ n2_ n3_; clear hb hbox hg))
  (try simp only [Act.put, List.setIfInBounds_toArray, List.set_cons_zero, List.set_cons_succ])
  go_cut [29] (fun v29 wc => ∃ (kq : Nat) (x29_1 : Bool), v29 = .bool x29_1 ∧ Aside0 (tattlerref06_May.j0 kq x29_1 a0_0 a0_1 a0_2 a0_3 a0_4 a0_5 a0_6 a0_7 = some r) ∧ Aside0 (kq ≤ k) ∧ Aside0 (wc.heap[gb170]? = some (.cells #[.string a0_0, .int .u64 a0_1, .int .u32 a0_2, .int .u8 a0_3, .int .u8 a0_4, .int .u32 a0_5, .int .u64 a0_6, .string a0_7] 30 (0, 0))) ∧ Aside0 (Below w.heap.size w wc))
  case first =>
    have H := HC2.out
    clear HC2
    replace H := Option.bind_eq_some_iff.mp H
    obtain ⟨t171, A40, H⟩ := H
    replace H : (if t171 = true then (if a0_1 > 281474976710655 then (tattlerref06_May.j0 k true a0_0 a0_1 a0_2 a0_3 a0_4 a0_5 a0_6 a0_7) else (if a0_3 > 63 then (tattlerref06_May.j0 k true a0_0 a0_1 a0_2 a0_3 a0_4 a0_5 a0_6 a0_7) else (if a0_6 > 281474976710655 then (tattlerref06_May.j0 k true a0_0 a0_1 a0_2 a0_3 a0_4 a0_5 a0_6 a0_7) else (tattlerref06_May.j0 k (decide ((a0_7.size : Int) > 1024)) a0_0 a0_1 a0_2 a0_3 a0_4 a0_5 a0_6 a0_7)))) else (tattlerref06_May.j0 k true a0_0 a0_1 a0_2 a0_3 a0_4 a0_5 a0_6 a0_7)) = some r := H
    have A4 := Aside0.mk A40
    clear A40
    by_cases c5 : t171 = true
    · subst c5
      have H1 : (if a0_1 > 281474976710655 then (tattlerref06_May.j0 k true a0_0 a0_1 a0_2 a0_3 a0_4 a0_5 a0_6 a0_7) else (if a0_3 > 63 then (tattlerref06_May.j0 k true a0_0 a0_1 a0_2 a0_3 a0_4 a0_5 a0_6 a0_7) else (if a0_6 > 281474976710655 then (tattlerref06_May.j0 k true a0_0 a0_1 a0_2 a0_3 a0_4 a0_5 a0_6 a0_7) else (tattlerref06_May.j0 k (decide ((a0_7.size : Int) > 1024)) a0_0 a0_1 a0_2 a0_3 a0_4 a0_5 a0_6 a0_7)))) = some r := by rw [if_pos rfl] at H; exact H
      clear H
      have H := H1
      clear H1
      by_cases c6 : a0_1 > 281474976710655
      · rw [if_pos c6] at H
        have c6b0 : decide (281474976710655 < a0_1) = true := decide_eq_true c6
        clear c6
        (first | rw [c6b0] | (simp only [i64_w, i32_w]; rw [c6b0]) | skip)
        have H' := Aside0.mk H
        clear H
        have hcz7_0 : w3.cell? ⟨gb170, 0, none⟩ = some (.string a0_0) := (blk_cell BK170.out 0).trans rfl
        have hcz7_1 : w3.cell? ⟨gb170, 1, none⟩ = some (.int .u64 a0_1) := (blk_cell BK170.out 1).trans rfl
        have hcz7_2 : w3.cell? ⟨gb170, 2, none⟩ = some (.int .u32 a0_2) := (blk_cell BK170.out 2).trans rfl
        have hcz7_3 : w3.cell? ⟨gb170, 3, none⟩ = some (.int .u8 a0_3) := (blk_cell BK170.out 3).trans rfl
        have hcz7_4 : w3.cell? ⟨gb170, 4, none⟩ = some (.int .u8 a0_4) := (blk_cell BK170.out 4).trans rfl
        have hcz7_5 : w3.cell? ⟨gb170, 5, none⟩ = some (.int .u32 a0_5) := (blk_cell BK170.out 5).trans rfl
        have hcz7_6 : w3.cell? ⟨gb170, 6, none⟩ = some (.int .u64 a0_6) := (blk_cell BK170.out 6).trans rfl
        have hcz7_7 : w3.cell? ⟨gb170, 7, none⟩ = some (.string a0_7) := (blk_cell BK170.out 7).trans rfl
        have hfz7_0 := blk_frozen BK170.out 0
        have hfz7_1 := blk_frozen BK170.out 1
        have hfz7_2 := blk_frozen BK170.out 2
        have hfz7_3 := blk_frozen BK170.out 3
        have hfz7_4 := blk_frozen BK170.out 4
        have hfz7_5 := blk_frozen BK170.out 5
        have hfz7_6 := blk_frozen BK170.out 6
        have hfz7_7 := blk_frozen BK170.out 7
        go_wp2_with (first | ((with_reducible refine gate_callee (f := 15) rfl ?_); refine goesL_ (some 5) rfl rfl Tryd.func15 (by kernel_rfl) rfl #[.string a0_0] rfl (by (try simp only [List.map_toArray, List.map_cons, List.map_nil]); first | done | rfl | (simp only [List.length_drop, List.length_take]; rfl)) ?_; (with_reducible refine (tattlerref06_KeyMay.calls k a0_0 true _ A4.out).mono ?_); rintro e w' ⟨rfl, ⟨nd, rfl⟩⟩; refine ⟨_, rfl, ?_⟩))
        go_meet
        case rel => exact ⟨_, (true), (by first | rfl | (simp; done) | (simp [*]; done)), H', ⟨by first | omega | exact Nat.le_refl _⟩, ⟨by (with_reducible repeat (first | refine blk_drewN ?_ _ | refine blk_drew ?_ | refine blk_alloc ?_ _)); exact BK170.out⟩, ⟨by repeat (first | (with_reducible first | exact HB.out | apply below_alloc | apply pw_below_drewN | apply below_drew1 | refine below_set ?_ GE170.out) | exact HB.out)⟩⟩
      · rw [if_neg c6] at H
        have c6b0 : decide (281474976710655 < a0_1) = false := decide_eq_false c6
        clear c6
        (first | rw [c6b0] | (simp only [i64_w, i32_w]; rw [c6b0]) | skip)
        by_cases c8 : a0_3 > 63
        · rw [if_pos c8] at H
          have c8b0 : decide (63 < a0_3) = true := decide_eq_true c8
          clear c8
          have H' := Aside0.mk H
          clear H
          have hcz9_0 : w3.cell? ⟨gb170, 0, none⟩ = some (.string a0_0) := (blk_cell BK170.out 0).trans rfl
          have hcz9_1 : w3.cell? ⟨gb170, 1, none⟩ = some (.int .u64 a0_1) := (blk_cell BK170.out 1).trans rfl
          have hcz9_2 : w3.cell? ⟨gb170, 2, none⟩ = some (.int .u32 a0_2) := (blk_cell BK170.out 2).trans rfl
          have hcz9_3 : w3.cell? ⟨gb170, 3, none⟩ = some (.int .u8 a0_3) := (blk_cell BK170.out 3).trans rfl
          have hcz9_4 : w3.cell? ⟨gb170, 4, none⟩ = some (.int .u8 a0_4) := (blk_cell BK170.out 4).trans rfl
          have hcz9_5 : w3.cell? ⟨gb170, 5, none⟩ = some (.int .u32 a0_5) := (blk_cell BK170.out 5).trans rfl
          have hcz9_6 : w3.cell? ⟨gb170, 6, none⟩ = some (.int .u64 a0_6) := (blk_cell BK170.out 6).trans rfl
          have hcz9_7 : w3.cell? ⟨gb170, 7, none⟩ = some (.string a0_7) := (blk_cell BK170.out 7).trans rfl
          have hfz9_0 := blk_frozen BK170.out 0
          have hfz9_1 := blk_frozen BK170.out 1
          have hfz9_2 := blk_frozen BK170.out 2
          have hfz9_3 := blk_frozen BK170.out 3
          have hfz9_4 := blk_frozen BK170.out 4
          have hfz9_5 := blk_frozen BK170.out 5
          have hfz9_6 := blk_frozen BK170.out 6
          have hfz9_7 := blk_frozen BK170.out 7
          go_wp2_with (first | ((with_reducible refine gate_callee (f := 15) rfl ?_); refine goesL_ (some 5) rfl rfl Tryd.func15 (by kernel_rfl) rfl #[.string a0_0] rfl (by (try simp only [List.map_toArray, List.map_cons, List.map_nil]); first | done | rfl | (simp only [List.length_drop, List.length_take]; rfl)) ?_; (with_reducible refine (tattlerref06_KeyMay.calls k a0_0 true _ A4.out).mono ?_); rintro e w' ⟨rfl, ⟨nd, rfl⟩⟩; refine ⟨_, rfl, ?_⟩))
          go_meet
          case rel => exact ⟨_, (true), (by first | rfl | (simp; done) | (simp [*]; done)), H', ⟨by first | omega | exact Nat.le_refl _⟩, ⟨by (with_reducible repeat (first | refine blk_drewN ?_ _ | refine blk_drew ?_ | refine blk_alloc ?_ _)); exact BK170.out⟩, ⟨by repeat (first | (with_reducible first | exact HB.out | apply below_alloc | apply pw_below_drewN | apply below_drew1 | refine below_set ?_ GE170.out) | exact HB.out)⟩⟩
        · rw [if_neg c8] at H
          have c8b0 : decide (63 < a0_3) = false := decide_eq_false c8
          clear c8
          by_cases c10 : a0_6 > 281474976710655
          · rw [if_pos c10] at H
            have c10b0 : decide (281474976710655 < a0_6) = true := decide_eq_true c10
            clear c10
            have H' := Aside0.mk H
            clear H
            have hcz11_0 : w3.cell? ⟨gb170, 0, none⟩ = some (.string a0_0) := (blk_cell BK170.out 0).trans rfl
            have hcz11_1 : w3.cell? ⟨gb170, 1, none⟩ = some (.int .u64 a0_1) := (blk_cell BK170.out 1).trans rfl
            have hcz11_2 : w3.cell? ⟨gb170, 2, none⟩ = some (.int .u32 a0_2) := (blk_cell BK170.out 2).trans rfl
            have hcz11_3 : w3.cell? ⟨gb170, 3, none⟩ = some (.int .u8 a0_3) := (blk_cell BK170.out 3).trans rfl
            have hcz11_4 : w3.cell? ⟨gb170, 4, none⟩ = some (.int .u8 a0_4) := (blk_cell BK170.out 4).trans rfl
            have hcz11_5 : w3.cell? ⟨gb170, 5, none⟩ = some (.int .u32 a0_5) := (blk_cell BK170.out 5).trans rfl
            have hcz11_6 : w3.cell? ⟨gb170, 6, none⟩ = some (.int .u64 a0_6) := (blk_cell BK170.out 6).trans rfl
            have hcz11_7 : w3.cell? ⟨gb170, 7, none⟩ = some (.string a0_7) := (blk_cell BK170.out 7).trans rfl
            have hfz11_0 := blk_frozen BK170.out 0
            have hfz11_1 := blk_frozen BK170.out 1
            have hfz11_2 := blk_frozen BK170.out 2
            have hfz11_3 := blk_frozen BK170.out 3
            have hfz11_4 := blk_frozen BK170.out 4
            have hfz11_5 := blk_frozen BK170.out 5
            have hfz11_6 := blk_frozen BK170.out 6
            have hfz11_7 := blk_frozen BK170.out 7
            go_wp2_with (first | ((with_reducible refine gate_callee (f := 15) rfl ?_); refine goesL_ (some 5) rfl rfl Tryd.func15 (by kernel_rfl) rfl #[.string a0_0] rfl (by (try simp only [List.map_toArray, List.map_cons, List.map_nil]); first | done | rfl | (simp only [List.length_drop, List.length_take]; rfl)) ?_; (with_reducible refine (tattlerref06_KeyMay.calls k a0_0 true _ A4.out).mono ?_); rintro e w' ⟨rfl, ⟨nd, rfl⟩⟩; refine ⟨_, rfl, ?_⟩))
            go_meet
            case rel => exact ⟨_, (true), (by first | rfl | (simp; done) | (simp [*]; done)), H', ⟨by first | omega | exact Nat.le_refl _⟩, ⟨by (with_reducible repeat (first | refine blk_drewN ?_ _ | refine blk_drew ?_ | refine blk_alloc ?_ _)); exact BK170.out⟩, ⟨by repeat (first | (with_reducible first | exact HB.out | apply below_alloc | apply pw_below_drewN | apply below_drew1 | refine below_set ?_ GE170.out) | exact HB.out)⟩⟩
          · rw [if_neg c10] at H
            have c10b0 : decide (281474976710655 < a0_6) = false := decide_eq_false c10
            clear c10
            have H' := Aside0.mk H
            clear H
            have hcz12_0 : w3.cell? ⟨gb170, 0, none⟩ = some (.string a0_0) := (blk_cell BK170.out 0).trans rfl
            have hcz12_1 : w3.cell? ⟨gb170, 1, none⟩ = some (.int .u64 a0_1) := (blk_cell BK170.out 1).trans rfl
            have hcz12_2 : w3.cell? ⟨gb170, 2, none⟩ = some (.int .u32 a0_2) := (blk_cell BK170.out 2).trans rfl
            have hcz12_3 : w3.cell? ⟨gb170, 3, none⟩ = some (.int .u8 a0_3) := (blk_cell BK170.out 3).trans rfl
            have hcz12_4 : w3.cell? ⟨gb170, 4, none⟩ = some (.int .u8 a0_4) := (blk_cell BK170.out 4).trans rfl
            have hcz12_5 : w3.cell? ⟨gb170, 5, none⟩ = some (.int .u32 a0_5) := (blk_cell BK170.out 5).trans rfl
            have hcz12_6 : w3.cell? ⟨gb170, 6, none⟩ = some (.int .u64 a0_6) := (blk_cell BK170.out 6).trans rfl
            have hcz12_7 : w3.cell? ⟨gb170, 7, none⟩ = some (.string a0_7) := (blk_cell BK170.out 7).trans rfl
            have hfz12_0 := blk_frozen BK170.out 0
            have hfz12_1 := blk_frozen BK170.out 1
            have hfz12_2 := blk_frozen BK170.out 2
            have hfz12_3 := blk_frozen BK170.out 3
            have hfz12_4 := blk_frozen BK170.out 4
            have hfz12_5 := blk_frozen BK170.out 5
            have hfz12_6 := blk_frozen BK170.out 6
            have hfz12_7 := blk_frozen BK170.out 7
            go_wp2_with (first | ((with_reducible refine gate_callee (f := 15) rfl ?_); refine goesL_ (some 5) rfl rfl Tryd.func15 (by kernel_rfl) rfl #[.string a0_0] rfl (by (try simp only [List.map_toArray, List.map_cons, List.map_nil]); first | done | rfl | (simp only [List.length_drop, List.length_take]; rfl)) ?_; (with_reducible refine (tattlerref06_KeyMay.calls k a0_0 true _ A4.out).mono ?_); rintro e w' ⟨rfl, ⟨nd, rfl⟩⟩; refine ⟨_, rfl, ?_⟩))
            go_meet
            case rel => exact ⟨_, (decide ((a0_7.size : Int) > 1024)), (by first | rfl | (simp; done) | (simp [*]; done)), H', ⟨by first | omega | exact Nat.le_refl _⟩, ⟨by (with_reducible repeat (first | refine blk_drewN ?_ _ | refine blk_drew ?_ | refine blk_alloc ?_ _)); exact BK170.out⟩, ⟨by repeat (first | (with_reducible first | exact HB.out | apply below_alloc | apply pw_below_drewN | apply below_drew1 | refine below_set ?_ GE170.out) | exact HB.out)⟩⟩
    · replace c5 := Bool.eq_false_iff.mpr c5
      subst c5
      have H1 : (tattlerref06_May.j0 k true a0_0 a0_1 a0_2 a0_3 a0_4 a0_5 a0_6 a0_7) = some r := by rw [if_neg (show ¬ (false = true) by decide)] at H; exact H
      clear H
      have H := H1
      clear H1
      have H' := Aside0.mk H
      clear H
      have hcz13_0 : w3.cell? ⟨gb170, 0, none⟩ = some (.string a0_0) := (blk_cell BK170.out 0).trans rfl
      have hcz13_1 : w3.cell? ⟨gb170, 1, none⟩ = some (.int .u64 a0_1) := (blk_cell BK170.out 1).trans rfl
      have hcz13_2 : w3.cell? ⟨gb170, 2, none⟩ = some (.int .u32 a0_2) := (blk_cell BK170.out 2).trans rfl
      have hcz13_3 : w3.cell? ⟨gb170, 3, none⟩ = some (.int .u8 a0_3) := (blk_cell BK170.out 3).trans rfl
      have hcz13_4 : w3.cell? ⟨gb170, 4, none⟩ = some (.int .u8 a0_4) := (blk_cell BK170.out 4).trans rfl
      have hcz13_5 : w3.cell? ⟨gb170, 5, none⟩ = some (.int .u32 a0_5) := (blk_cell BK170.out 5).trans rfl
      have hcz13_6 : w3.cell? ⟨gb170, 6, none⟩ = some (.int .u64 a0_6) := (blk_cell BK170.out 6).trans rfl
      have hcz13_7 : w3.cell? ⟨gb170, 7, none⟩ = some (.string a0_7) := (blk_cell BK170.out 7).trans rfl
      have hfz13_0 := blk_frozen BK170.out 0
      have hfz13_1 := blk_frozen BK170.out 1
      have hfz13_2 := blk_frozen BK170.out 2
      have hfz13_3 := blk_frozen BK170.out 3
      have hfz13_4 := blk_frozen BK170.out 4
      have hfz13_5 := blk_frozen BK170.out 5
      have hfz13_6 := blk_frozen BK170.out 6
      have hfz13_7 := blk_frozen BK170.out 7
      go_wp2_with (first | ((with_reducible refine gate_callee (f := 15) rfl ?_); refine goesL_ (some 5) rfl rfl Tryd.func15 (by kernel_rfl) rfl #[.string a0_0] rfl (by (try simp only [List.map_toArray, List.map_cons, List.map_nil]); first | done | rfl | (simp only [List.length_drop, List.length_take]; rfl)) ?_; (with_reducible refine (tattlerref06_KeyMay.calls k a0_0 false _ A4.out).mono ?_); rintro e w' ⟨rfl, ⟨nd, rfl⟩⟩; refine ⟨_, rfl, ?_⟩))
      go_meet
      case rel => exact ⟨_, (true), (by first | rfl | (simp; done) | (simp [*]; done)), H', ⟨by first | omega | exact Nat.le_refl _⟩, ⟨by (with_reducible repeat (first | refine blk_drewN ?_ _ | refine blk_drew ?_ | refine blk_alloc ?_ _)); exact BK170.out⟩, ⟨by repeat (first | (with_reducible first | exact HB.out | apply below_alloc | apply pw_below_drewN | apply below_drew1 | refine below_set ?_ GE170.out) | exact HB.out)⟩⟩
  case rest =>
    clear HC2
    try clear c1
    try clear p2
    try clear c5
    try clear c6
    try clear c6b0
    try clear c8
    try clear c8b0
    try clear c10
    try clear c10b0
    try clear hcz11_0
    try clear hcz11_1
    try clear hcz11_2
    try clear hcz11_3
    try clear hcz11_4
    try clear hcz11_5
    try clear hcz11_6
    try clear hcz11_7
    try clear hcz12_0
    try clear hcz12_1
    try clear hcz12_2
    try clear hcz12_3
    try clear hcz12_4
    try clear hcz12_5
    try clear hcz12_6
    try clear hcz12_7
    try clear hcz13_0
    try clear hcz13_1
    try clear hcz13_2
    try clear hcz13_3
    try clear hcz13_4
    try clear hcz13_5
    try clear hcz13_6
    try clear hcz13_7
    try clear hcz7_0
    try clear hcz7_1
    try clear hcz7_2
    try clear hcz7_3
    try clear hcz7_4
    try clear hcz7_5
    try clear hcz7_6
    try clear hcz7_7
    try clear hcz9_0
    try clear hcz9_1
    try clear hcz9_2
    try clear hcz9_3
    try clear hcz9_4
    try clear hcz9_5
    try clear hcz9_6
    try clear hcz9_7
    try clear hfz11_0
    try clear hfz11_1
    try clear hfz11_2
    try clear hfz11_3
    try clear hfz11_4
    try clear hfz11_5
    try clear hfz11_6
    try clear hfz11_7
    try clear hfz12_0
    try clear hfz12_1
    try clear hfz12_2
    try clear hfz12_3
    try clear hfz12_4
    try clear hfz12_5
    try clear hfz12_6
    try clear hfz12_7
    try clear hfz13_0
    try clear hfz13_1
    try clear hfz13_2
    try clear hfz13_3
    try clear hfz13_4
    try clear hfz13_5
    try clear hfz13_6
    try clear hfz13_7
    try clear hfz7_0
    try clear hfz7_1
    try clear hfz7_2
    try clear hfz7_3
    try clear hfz7_4
    try clear hfz7_5
    try clear hfz7_6
    try clear hfz7_7
    try clear hfz9_0
    try clear hfz9_1
    try clear hfz9_2
    try clear hfz9_3
    try clear hfz9_4
    try clear hfz9_5
    try clear hfz9_6
    try clear hfz9_7
    obtain ⟨kq, x29_1, rfl, HA, HJ1, BK170, HB⟩ := hcut
    cases kq with
    | zero => exact absurd HA.out (by simp [tattlerref06_May.j0])
    | succ kj1 =>
      have H := HA.out
      clear HA
      simp only [tattlerref06_May.j0] at H
      by_cases c14 : x29_1 = true
      · subst c14
        have H1 : (some false) = some r := by rw [if_pos rfl] at H; exact H
        clear H
        have H := H1
        clear H1
        obtain rfl := Option.some.inj H
        go_wp2
        go_ret
        exact ⟨by first | rfl | (simp [errW_none, errW_some] <;> rfl) | (simp [*, errW_none, errW_some] <;> rfl), by repeat (first | (with_reducible first | exact HB.out | apply below_alloc | apply pw_below_drewN | apply below_drew1 | refine below_set ?_ GE170.out) | exact HB.out)⟩
      · replace c14 := Bool.eq_false_iff.mpr c14
        subst c14
        have H1 : (if a0_4 = 1 then (if a0_5 = 0 then (if a0_6 = 0 then (some (a0_7.toList == ([] : List UInt8))) else (some false)) else (some false)) else (if a0_4 = 2 then (if a0_5 = 0 then (if a0_6 = 0 then (some (a0_7.toList == ([] : List UInt8))) else (some false)) else (some false)) else (some (a0_4 == 3)))) = some r := by rw [if_neg (show ¬ (false = true) by decide)] at H; exact H
        clear H
        have H := H1
        clear H1
        by_cases c15 : a0_4 = 1
        · rw [if_pos c15] at H
          have c15b0 : (a0_4 == 1) = true := beq_iff_eq.mpr c15
          have c15b1 : (a0_4 != 1) = false := bne_eq_false_iff_eq.mpr c15
          clear c15
          by_cases c16 : a0_5 = 0
          · rw [if_pos c16] at H
            have c16b0 : (a0_5 == 0) = true := beq_iff_eq.mpr c16
            have c16b1 : (a0_5 != 0) = false := bne_eq_false_iff_eq.mpr c16
            clear c16
            by_cases c17 : a0_6 = 0
            · rw [if_pos c17] at H
              have c17b0 : (a0_6 == 0) = true := beq_iff_eq.mpr c17
              have c17b1 : (a0_6 != 0) = false := bne_eq_false_iff_eq.mpr c17
              clear c17
              obtain rfl := Option.some.inj H
              have hcz18_0 : wc.cell? ⟨gb170, 0, none⟩ = some (.string a0_0) := (blk_cell BK170.out 0).trans rfl
              have hcz18_1 : wc.cell? ⟨gb170, 1, none⟩ = some (.int .u64 a0_1) := (blk_cell BK170.out 1).trans rfl
              have hcz18_2 : wc.cell? ⟨gb170, 2, none⟩ = some (.int .u32 a0_2) := (blk_cell BK170.out 2).trans rfl
              have hcz18_3 : wc.cell? ⟨gb170, 3, none⟩ = some (.int .u8 a0_3) := (blk_cell BK170.out 3).trans rfl
              have hcz18_4 : wc.cell? ⟨gb170, 4, none⟩ = some (.int .u8 a0_4) := (blk_cell BK170.out 4).trans rfl
              have hcz18_5 : wc.cell? ⟨gb170, 5, none⟩ = some (.int .u32 a0_5) := (blk_cell BK170.out 5).trans rfl
              have hcz18_6 : wc.cell? ⟨gb170, 6, none⟩ = some (.int .u64 a0_6) := (blk_cell BK170.out 6).trans rfl
              have hcz18_7 : wc.cell? ⟨gb170, 7, none⟩ = some (.string a0_7) := (blk_cell BK170.out 7).trans rfl
              have hfz18_0 := blk_frozen BK170.out 0
              have hfz18_1 := blk_frozen BK170.out 1
              have hfz18_2 := blk_frozen BK170.out 2
              have hfz18_3 := blk_frozen BK170.out 3
              have hfz18_4 := blk_frozen BK170.out 4
              have hfz18_5 := blk_frozen BK170.out 5
              have hfz18_6 := blk_frozen BK170.out 6
              have hfz18_7 := blk_frozen BK170.out 7
              go_wp2
              go_ret
              exact ⟨by first | rfl | (simp [errW_none, errW_some] <;> rfl) | (simp [*, errW_none, errW_some] <;> rfl), by repeat (first | (with_reducible first | exact HB.out | apply below_alloc | apply pw_below_drewN | apply below_drew1 | refine below_set ?_ GE170.out) | exact HB.out)⟩
            · rw [if_neg c17] at H
              have c17b0 : (a0_6 == 0) = false := beq_eq_false_iff_ne.mpr c17
              have c17b1 : (a0_6 != 0) = true := bne_iff_ne.mpr c17
              obtain rfl := Option.some.inj H
              have hcz19_0 : wc.cell? ⟨gb170, 0, none⟩ = some (.string a0_0) := (blk_cell BK170.out 0).trans rfl
              have hcz19_1 : wc.cell? ⟨gb170, 1, none⟩ = some (.int .u64 a0_1) := (blk_cell BK170.out 1).trans rfl
              have hcz19_2 : wc.cell? ⟨gb170, 2, none⟩ = some (.int .u32 a0_2) := (blk_cell BK170.out 2).trans rfl
              have hcz19_3 : wc.cell? ⟨gb170, 3, none⟩ = some (.int .u8 a0_3) := (blk_cell BK170.out 3).trans rfl
              have hcz19_4 : wc.cell? ⟨gb170, 4, none⟩ = some (.int .u8 a0_4) := (blk_cell BK170.out 4).trans rfl
              have hcz19_5 : wc.cell? ⟨gb170, 5, none⟩ = some (.int .u32 a0_5) := (blk_cell BK170.out 5).trans rfl
              have hcz19_6 : wc.cell? ⟨gb170, 6, none⟩ = some (.int .u64 a0_6) := (blk_cell BK170.out 6).trans rfl
              have hcz19_7 : wc.cell? ⟨gb170, 7, none⟩ = some (.string a0_7) := (blk_cell BK170.out 7).trans rfl
              have hfz19_0 := blk_frozen BK170.out 0
              have hfz19_1 := blk_frozen BK170.out 1
              have hfz19_2 := blk_frozen BK170.out 2
              have hfz19_3 := blk_frozen BK170.out 3
              have hfz19_4 := blk_frozen BK170.out 4
              have hfz19_5 := blk_frozen BK170.out 5
              have hfz19_6 := blk_frozen BK170.out 6
              have hfz19_7 := blk_frozen BK170.out 7
              go_wp2
              go_ret
              exact ⟨by first | rfl | (simp [errW_none, errW_some] <;> rfl) | (simp [*, errW_none, errW_some] <;> rfl), by repeat (first | (with_reducible first | exact HB.out | apply below_alloc | apply pw_below_drewN | apply below_drew1 | refine below_set ?_ GE170.out) | exact HB.out)⟩
          · rw [if_neg c16] at H
            have c16b0 : (a0_5 == 0) = false := beq_eq_false_iff_ne.mpr c16
            have c16b1 : (a0_5 != 0) = true := bne_iff_ne.mpr c16
            obtain rfl := Option.some.inj H
            have hcz20_0 : wc.cell? ⟨gb170, 0, none⟩ = some (.string a0_0) := (blk_cell BK170.out 0).trans rfl
            have hcz20_1 : wc.cell? ⟨gb170, 1, none⟩ = some (.int .u64 a0_1) := (blk_cell BK170.out 1).trans rfl
            have hcz20_2 : wc.cell? ⟨gb170, 2, none⟩ = some (.int .u32 a0_2) := (blk_cell BK170.out 2).trans rfl
            have hcz20_3 : wc.cell? ⟨gb170, 3, none⟩ = some (.int .u8 a0_3) := (blk_cell BK170.out 3).trans rfl
            have hcz20_4 : wc.cell? ⟨gb170, 4, none⟩ = some (.int .u8 a0_4) := (blk_cell BK170.out 4).trans rfl
            have hcz20_5 : wc.cell? ⟨gb170, 5, none⟩ = some (.int .u32 a0_5) := (blk_cell BK170.out 5).trans rfl
            have hcz20_6 : wc.cell? ⟨gb170, 6, none⟩ = some (.int .u64 a0_6) := (blk_cell BK170.out 6).trans rfl
            have hcz20_7 : wc.cell? ⟨gb170, 7, none⟩ = some (.string a0_7) := (blk_cell BK170.out 7).trans rfl
            have hfz20_0 := blk_frozen BK170.out 0
            have hfz20_1 := blk_frozen BK170.out 1
            have hfz20_2 := blk_frozen BK170.out 2
            have hfz20_3 := blk_frozen BK170.out 3
            have hfz20_4 := blk_frozen BK170.out 4
            have hfz20_5 := blk_frozen BK170.out 5
            have hfz20_6 := blk_frozen BK170.out 6
            have hfz20_7 := blk_frozen BK170.out 7
            go_wp2
            go_ret
            exact ⟨by first | rfl | (simp [errW_none, errW_some] <;> rfl) | (simp [*, errW_none, errW_some] <;> rfl), by repeat (first | (with_reducible first | exact HB.out | apply below_alloc | apply pw_below_drewN | apply below_drew1 | refine below_set ?_ GE170.out) | exact HB.out)⟩
        · rw [if_neg c15] at H
          have c15b0 : (a0_4 == 1) = false := beq_eq_false_iff_ne.mpr c15
          have c15b1 : (a0_4 != 1) = true := bne_iff_ne.mpr c15
          by_cases c21 : a0_4 = 2
          · rw [if_pos c21] at H
            have c21b0 : (a0_4 == 2) = true := beq_iff_eq.mpr c21
            have c21b1 : (a0_4 != 2) = false := bne_eq_false_iff_eq.mpr c21
            clear c21
            by_cases c22 : a0_5 = 0
            · rw [if_pos c22] at H
              have c22b0 : (a0_5 == 0) = true := beq_iff_eq.mpr c22
              have c22b1 : (a0_5 != 0) = false := bne_eq_false_iff_eq.mpr c22
              clear c22
              by_cases c23 : a0_6 = 0
              · rw [if_pos c23] at H
                have c23b0 : (a0_6 == 0) = true := beq_iff_eq.mpr c23
                have c23b1 : (a0_6 != 0) = false := bne_eq_false_iff_eq.mpr c23
                clear c23
                obtain rfl := Option.some.inj H
                have hcz24_0 : wc.cell? ⟨gb170, 0, none⟩ = some (.string a0_0) := (blk_cell BK170.out 0).trans rfl
                have hcz24_1 : wc.cell? ⟨gb170, 1, none⟩ = some (.int .u64 a0_1) := (blk_cell BK170.out 1).trans rfl
                have hcz24_2 : wc.cell? ⟨gb170, 2, none⟩ = some (.int .u32 a0_2) := (blk_cell BK170.out 2).trans rfl
                have hcz24_3 : wc.cell? ⟨gb170, 3, none⟩ = some (.int .u8 a0_3) := (blk_cell BK170.out 3).trans rfl
                have hcz24_4 : wc.cell? ⟨gb170, 4, none⟩ = some (.int .u8 a0_4) := (blk_cell BK170.out 4).trans rfl
                have hcz24_5 : wc.cell? ⟨gb170, 5, none⟩ = some (.int .u32 a0_5) := (blk_cell BK170.out 5).trans rfl
                have hcz24_6 : wc.cell? ⟨gb170, 6, none⟩ = some (.int .u64 a0_6) := (blk_cell BK170.out 6).trans rfl
                have hcz24_7 : wc.cell? ⟨gb170, 7, none⟩ = some (.string a0_7) := (blk_cell BK170.out 7).trans rfl
                have hfz24_0 := blk_frozen BK170.out 0
                have hfz24_1 := blk_frozen BK170.out 1
                have hfz24_2 := blk_frozen BK170.out 2
                have hfz24_3 := blk_frozen BK170.out 3
                have hfz24_4 := blk_frozen BK170.out 4
                have hfz24_5 := blk_frozen BK170.out 5
                have hfz24_6 := blk_frozen BK170.out 6
                have hfz24_7 := blk_frozen BK170.out 7
                go_wp2
                go_ret
                exact ⟨by first | rfl | (simp [errW_none, errW_some] <;> rfl) | (simp [*, errW_none, errW_some] <;> rfl), by repeat (first | (with_reducible first | exact HB.out | apply below_alloc | apply pw_below_drewN | apply below_drew1 | refine below_set ?_ GE170.out) | exact HB.out)⟩
              · rw [if_neg c23] at H
                have c23b0 : (a0_6 == 0) = false := beq_eq_false_iff_ne.mpr c23
                have c23b1 : (a0_6 != 0) = true := bne_iff_ne.mpr c23
                obtain rfl := Option.some.inj H
                have hcz25_0 : wc.cell? ⟨gb170, 0, none⟩ = some (.string a0_0) := (blk_cell BK170.out 0).trans rfl
                have hcz25_1 : wc.cell? ⟨gb170, 1, none⟩ = some (.int .u64 a0_1) := (blk_cell BK170.out 1).trans rfl
                have hcz25_2 : wc.cell? ⟨gb170, 2, none⟩ = some (.int .u32 a0_2) := (blk_cell BK170.out 2).trans rfl
                have hcz25_3 : wc.cell? ⟨gb170, 3, none⟩ = some (.int .u8 a0_3) := (blk_cell BK170.out 3).trans rfl
                have hcz25_4 : wc.cell? ⟨gb170, 4, none⟩ = some (.int .u8 a0_4) := (blk_cell BK170.out 4).trans rfl
                have hcz25_5 : wc.cell? ⟨gb170, 5, none⟩ = some (.int .u32 a0_5) := (blk_cell BK170.out 5).trans rfl
                have hcz25_6 : wc.cell? ⟨gb170, 6, none⟩ = some (.int .u64 a0_6) := (blk_cell BK170.out 6).trans rfl
                have hcz25_7 : wc.cell? ⟨gb170, 7, none⟩ = some (.string a0_7) := (blk_cell BK170.out 7).trans rfl
                have hfz25_0 := blk_frozen BK170.out 0
                have hfz25_1 := blk_frozen BK170.out 1
                have hfz25_2 := blk_frozen BK170.out 2
                have hfz25_3 := blk_frozen BK170.out 3
                have hfz25_4 := blk_frozen BK170.out 4
                have hfz25_5 := blk_frozen BK170.out 5
                have hfz25_6 := blk_frozen BK170.out 6
                have hfz25_7 := blk_frozen BK170.out 7
                go_wp2
                go_ret
                exact ⟨by first | rfl | (simp [errW_none, errW_some] <;> rfl) | (simp [*, errW_none, errW_some] <;> rfl), by repeat (first | (with_reducible first | exact HB.out | apply below_alloc | apply pw_below_drewN | apply below_drew1 | refine below_set ?_ GE170.out) | exact HB.out)⟩
            · rw [if_neg c22] at H
              have c22b0 : (a0_5 == 0) = false := beq_eq_false_iff_ne.mpr c22
              have c22b1 : (a0_5 != 0) = true := bne_iff_ne.mpr c22
              obtain rfl := Option.some.inj H
              have hcz26_0 : wc.cell? ⟨gb170, 0, none⟩ = some (.string a0_0) := (blk_cell BK170.out 0).trans rfl
              have hcz26_1 : wc.cell? ⟨gb170, 1, none⟩ = some (.int .u64 a0_1) := (blk_cell BK170.out 1).trans rfl
              have hcz26_2 : wc.cell? ⟨gb170, 2, none⟩ = some (.int .u32 a0_2) := (blk_cell BK170.out 2).trans rfl
              have hcz26_3 : wc.cell? ⟨gb170, 3, none⟩ = some (.int .u8 a0_3) := (blk_cell BK170.out 3).trans rfl
              have hcz26_4 : wc.cell? ⟨gb170, 4, none⟩ = some (.int .u8 a0_4) := (blk_cell BK170.out 4).trans rfl
              have hcz26_5 : wc.cell? ⟨gb170, 5, none⟩ = some (.int .u32 a0_5) := (blk_cell BK170.out 5).trans rfl
              have hcz26_6 : wc.cell? ⟨gb170, 6, none⟩ = some (.int .u64 a0_6) := (blk_cell BK170.out 6).trans rfl
              have hcz26_7 : wc.cell? ⟨gb170, 7, none⟩ = some (.string a0_7) := (blk_cell BK170.out 7).trans rfl
              have hfz26_0 := blk_frozen BK170.out 0
              have hfz26_1 := blk_frozen BK170.out 1
              have hfz26_2 := blk_frozen BK170.out 2
              have hfz26_3 := blk_frozen BK170.out 3
              have hfz26_4 := blk_frozen BK170.out 4
              have hfz26_5 := blk_frozen BK170.out 5
              have hfz26_6 := blk_frozen BK170.out 6
              have hfz26_7 := blk_frozen BK170.out 7
              go_wp2
              go_ret
              exact ⟨by first | rfl | (simp [errW_none, errW_some] <;> rfl) | (simp [*, errW_none, errW_some] <;> rfl), by repeat (first | (with_reducible first | exact HB.out | apply below_alloc | apply pw_below_drewN | apply below_drew1 | refine below_set ?_ GE170.out) | exact HB.out)⟩
          · rw [if_neg c21] at H
            have c21b0 : (a0_4 == 2) = false := beq_eq_false_iff_ne.mpr c21
            have c21b1 : (a0_4 != 2) = true := bne_iff_ne.mpr c21
            obtain rfl := Option.some.inj H
            have hcz27_0 : wc.cell? ⟨gb170, 0, none⟩ = some (.string a0_0) := (blk_cell BK170.out 0).trans rfl
            have hcz27_1 : wc.cell? ⟨gb170, 1, none⟩ = some (.int .u64 a0_1) := (blk_cell BK170.out 1).trans rfl
            have hcz27_2 : wc.cell? ⟨gb170, 2, none⟩ = some (.int .u32 a0_2) := (blk_cell BK170.out 2).trans rfl
            have hcz27_3 : wc.cell? ⟨gb170, 3, none⟩ = some (.int .u8 a0_3) := (blk_cell BK170.out 3).trans rfl
            have hcz27_4 : wc.cell? ⟨gb170, 4, none⟩ = some (.int .u8 a0_4) := (blk_cell BK170.out 4).trans rfl
            have hcz27_5 : wc.cell? ⟨gb170, 5, none⟩ = some (.int .u32 a0_5) := (blk_cell BK170.out 5).trans rfl
            have hcz27_6 : wc.cell? ⟨gb170, 6, none⟩ = some (.int .u64 a0_6) := (blk_cell BK170.out 6).trans rfl
            have hcz27_7 : wc.cell? ⟨gb170, 7, none⟩ = some (.string a0_7) := (blk_cell BK170.out 7).trans rfl
            have hfz27_0 := blk_frozen BK170.out 0
            have hfz27_1 := blk_frozen BK170.out 1
            have hfz27_2 := blk_frozen BK170.out 2
            have hfz27_3 := blk_frozen BK170.out 3
            have hfz27_4 := blk_frozen BK170.out 4
            have hfz27_5 := blk_frozen BK170.out 5
            have hfz27_6 := blk_frozen BK170.out 6
            have hfz27_7 := blk_frozen BK170.out 7
            go_wp2
            go_ret
            exact ⟨by first | rfl | (simp [errW_none, errW_some] <;> rfl) | (simp [*, errW_none, errW_some] <;> rfl), by repeat (first | (with_reducible first | exact HB.out | apply below_alloc | apply pw_below_drewN | apply below_drew1 | refine below_set ?_ GE170.out) | exact HB.out)⟩

/-! ### tattlerref06_Same: function 11 -/
def tattlerref06_Same.l0 : Nat → List (S30) → List (S30) → Int → Int → Option (Bool)
  | 0, _, _, _, _ => none
  | k + 1, x0, x1, x12, x13 => if x13 < x12 then (if 0 ≤ x13 then (if x13 < (x0.length : Int) then (if x13 < (x1.length : Int) then (if (!((((rd_T30 x0 x13).f0).toList) == (((rd_T30 x1 x13).f0).toList)) || ((!(((rd_T30 x0 x13).f1.f0) == ((rd_T30 x1 x13).f1.f0)) || (!(((rd_T30 x0 x13).f1.f1) == ((rd_T30 x1 x13).f1.f1)) || (!(((rd_T30 x0 x13).f1.f2) == ((rd_T30 x1 x13).f1.f2))))) || (!(((rd_T30 x0 x13).f2) == ((rd_T30 x1 x13).f2)) || (!(((rd_T30 x0 x13).f3) == ((rd_T30 x1 x13).f3)) || (!(((rd_T30 x0 x13).f4) == ((rd_T30 x1 x13).f4)) || (!((((rd_T30 x0 x13).f5).toList) == (((rd_T30 x1 x13).f5).toList)))))))) = true then (some false) else (tattlerref06_Same.l0 k x0 x1 x12 (wrap64 (x13 + 1)))) else (none)) else (none)) else (none)) else (some true)
def tattlerref06_Same.f (k : Nat) (l0 : List (S30)) (l1 : List (S30)) : Option (Bool) := if (l0.length : Int) = (l1.length : Int) then (tattlerref06_Same.l0 k l0 l1 (l0.length : Int) 0) else (some false)
theorem tattlerref06_Same.mono_l : ∀ k, (∀ y0 y1 y2 y3, LeO (tattlerref06_Same.l0 k y0 y1 y2 y3) (tattlerref06_Same.l0 (k + 1) y0 y1 y2 y3))
  | 0 => fun _ _ _ _ r h => by simp [tattlerref06_Same.l0] at h
  | k + 1 => by
    have ih0 := tattlerref06_Same.mono_l k
    · intro y0 y1 y2 y3
      unfold tattlerref06_Same.l0
      repeat' first
      | (with_reducible exact ih0 _ _ _ _)
      | (with_reducible exact LeO.refl _)
      | (with_reducible exact LeO.none _)
      | (with_reducible refine LeO.ite ?_ ?_)
      | (with_reducible refine LeO.bind ?_ (fun _ => ?_))
      | exact ih0 _ _ _ _
      | exact LeO.none _
      | refine LeO.ite ?_ ?_
      | refine LeO.bind ?_ (fun _ => ?_)
theorem tattlerref06_Same.mono : ∀ a0 a1 k, LeO (tattlerref06_Same.f k a0 a1) (tattlerref06_Same.f (k + 1) a0 a1) := by
  intro a0 a1 k
  have ih0 := tattlerref06_Same.mono_l k
  unfold tattlerref06_Same.f
  repeat' first
      | (with_reducible exact ih0 _ _ _ _)
      | (with_reducible exact LeO.refl _)
      | (with_reducible exact LeO.none _)
      | (with_reducible refine LeO.ite ?_ ?_)
      | (with_reducible refine LeO.bind ?_ (fun _ => ?_))
      | exact ih0 _ _ _ _
      | exact LeO.none _
      | refine LeO.ite ?_ ?_
      | refine LeO.bind ?_ (fun _ => ?_)
set_option maxHeartbeats 8000000 in
set_option maxRecDepth 100000 in
theorem tattlerref06_Same.calls (k : Nat) (A0 : Option Addr) (c0 : Nat) (l0 : List (S30)) (A1 : Option Addr) (c1 : Nat) (l1 : List (S30)) (r : Bool) (w : World) (hr0 : Kd.C k30 w A0 l0.length l0) (hc0 : l0.length ≤ c0) (hr1 : Kd.C k30 w A1 l1.length l1) (hc1 : l1.length ≤ c1) (h : tattlerref06_Same.f k l0 l1 = some r) :
    Calls Tryd.prog 11 #[.slice A0 l0.length c0, .slice A1 l1.length c1] w fun e w' => e = .returned (.bool r) ∧ Drawn0 w w' := by
  have hu30 := Tryd.underlying30
  have HR0 := Aside0.mk hr0
  have HC0 := Aside0.mk hc0
  clear hr0 hc0
  have HR1 := Aside0.mk hr1
  have HC1 := Aside0.mk hc1
  clear hr1 hc1
  have H : (if (l0.length : Int) = (l1.length : Int) then (tattlerref06_Same.l0 k l0 l1 (l0.length : Int) 0) else (some false)) = some r := h
  clear h
  by_cases c3 : (l0.length : Int) = (l1.length : Int)
  · rw [if_pos c3] at H
    have c3b0 : ((l0.length : Int) == (l1.length : Int)) = true := beq_iff_eq.mpr c3
    have c3b1 : ((l0.length : Int) != (l1.length : Int)) = false := bne_eq_false_iff_eq.mpr c3
    have c3b2 : (l0.length == l1.length) = true := by first | simpa using c3 | (simp at c3 ⊢; omega)
    clear c3
    have H' := Aside0.mk H
    clear H
    go_enter Tryd.func11, Tryd.ntmps11
    go_wp2
    repeat (go_quiet (fail); try go_wp2)
    go_loopg [13] k (fun kq v13 w' => ∃ (x13_1 : Int), v13 = .int .i64 x13_1 ∧ Aside0 (tattlerref06_Same.l0 kq l0 l1 (l0.length : Int) x13_1 = some r) ∧ Aside0 (kq ≤ k) ∧ Drawn0 w w')
    case atStart => exact ⟨(0), (by first | rfl | (simp; done) | (simp [*]; done)), H', ⟨Nat.le_refl _⟩, by repeat (first | exact Drawn0.refl _ | apply Drawn0.step)⟩
    case round =>
      clear H'
      try clear c1
      try clear p2
      try clear c3
      try clear c3b0
      try clear c3b1
      try clear c3b2
      obtain ⟨x13_1, rfl, HA, HK1, ⟨m1, rfl⟩⟩ := hrel
      cases gk with
      | zero => exact absurd HA.out (by simp [tattlerref06_Same.l0])
      | succ k1 =>
        have H := HA.out
        clear HA
        simp only [tattlerref06_Same.l0] at H
        by_cases c4 : x13_1 < (l0.length : Int)
        · rw [if_pos c4] at H
          have c4b0 : decide (x13_1 < (l0.length : Int)) = true := decide_eq_true c4
          clear c4
          by_cases c5 : 0 ≤ x13_1
          · rw [if_pos c5] at H
            have c5b0 : decide (0 ≤ x13_1) = true := decide_eq_true c5
            clear c5
            by_cases c6 : x13_1 < (l0.length : Int)
            · rw [if_pos c6] at H
              have c6b0 : decide (x13_1 < (l0.length : Int)) = true := decide_eq_true c6
              clear c6
              by_cases c7 : x13_1 < (l1.length : Int)
              · rw [if_pos c7] at H
                have c7b0 : decide (x13_1 < (l1.length : Int)) = true := decide_eq_true c7
                clear c7
                by_cases c8 : (!((((rd_T30 l0 x13_1).f0).toList) == (((rd_T30 l1 x13_1).f0).toList)) || ((!(((rd_T30 l0 x13_1).f1.f0) == ((rd_T30 l1 x13_1).f1.f0)) || (!(((rd_T30 l0 x13_1).f1.f1) == ((rd_T30 l1 x13_1).f1.f1)) || (!(((rd_T30 l0 x13_1).f1.f2) == ((rd_T30 l1 x13_1).f1.f2))))) || (!(((rd_T30 l0 x13_1).f2) == ((rd_T30 l1 x13_1).f2)) || (!(((rd_T30 l0 x13_1).f3) == ((rd_T30 l1 x13_1).f3)) || (!(((rd_T30 l0 x13_1).f4) == ((rd_T30 l1 x13_1).f4)) || (!((((rd_T30 l0 x13_1).f5).toList) == (((rd_T30 l1 x13_1).f5).toList)))))))) = true
                · rw [if_pos c8] at H
                  have c8b0 : (!((((rd_T30 l0 x13_1).f0).toList) == (((rd_T30 l1 x13_1).f0).toList)) || ((!(((rd_T30 l0 x13_1).f1.f0) == ((rd_T30 l1 x13_1).f1.f0)) || (!(((rd_T30 l0 x13_1).f1.f1) == ((rd_T30 l1 x13_1).f1.f1)) || (!(((rd_T30 l0 x13_1).f1.f2) == ((rd_T30 l1 x13_1).f1.f2))))) || (!(((rd_T30 l0 x13_1).f2) == ((rd_T30 l1 x13_1).f2)) || (!(((rd_T30 l0 x13_1).f3) == ((rd_T30 l1 x13_1).f3)) || (!(((rd_T30 l0 x13_1).f4) == ((rd_T30 l1 x13_1).f4)) || (!((((rd_T30 l0 x13_1).f5).toList) == (((rd_T30 l1 x13_1).f5).toList)))))))) = true := c8
                  clear c8
                  obtain rfl := Option.some.inj H
                  have p172 : 0 ≤ (x13_1 : Int) := of_decide_eq_true (by first | (with_reducible assumption) | assumption)
                  have q172 : x13_1 < (l0.length : Int) := of_decide_eq_true (by first | (with_reducible assumption) | assumption)
                  obtain ⟨ad172, e172, hx172_0, hx172_1, hx172_2, hx172_3, hx172_4, hx172_5, hx172_6, hx172_7⟩ := at_T30 HR0.out x13_1 p172 q172
                  cases e172
                  replace p172 := eq_true p172
                  replace q172 := eq_true q172
                  have p173 : 0 ≤ (x13_1 : Int) := of_decide_eq_true (by first | (with_reducible assumption) | assumption)
                  have q173 : x13_1 < (l1.length : Int) := of_decide_eq_true (by first | (with_reducible assumption) | assumption)
                  obtain ⟨ad173, e173, hx173_0, hx173_1, hx173_2, hx173_3, hx173_4, hx173_5, hx173_6, hx173_7⟩ := at_T30 HR1.out x13_1 p173 q173
                  cases e173
                  replace p173 := eq_true p173
                  replace q173 := eq_true q173
                  go_wp2
                  repeat (go_quiet (fail); try go_wp2)
                  go_ret
                  exact ⟨by first | rfl | (simp; done) | (simp [*]; done), by repeat (first | exact Drawn0.refl _ | apply Drawn0.step)⟩
                · rw [if_neg c8] at H
                  have c8b0 : (!((((rd_T30 l0 x13_1).f0).toList) == (((rd_T30 l1 x13_1).f0).toList)) || ((!(((rd_T30 l0 x13_1).f1.f0) == ((rd_T30 l1 x13_1).f1.f0)) || (!(((rd_T30 l0 x13_1).f1.f1) == ((rd_T30 l1 x13_1).f1.f1)) || (!(((rd_T30 l0 x13_1).f1.f2) == ((rd_T30 l1 x13_1).f1.f2))))) || (!(((rd_T30 l0 x13_1).f2) == ((rd_T30 l1 x13_1).f2)) || (!(((rd_T30 l0 x13_1).f3) == ((rd_T30 l1 x13_1).f3)) || (!(((rd_T30 l0 x13_1).f4) == ((rd_T30 l1 x13_1).f4)) || (!((((rd_T30 l0 x13_1).f5).toList) == (((rd_T30 l1 x13_1).f5).toList)))))))) = false := by simpa using c8
                  clear c8
                  have H' := Aside0.mk H
                  clear H
                  have p172 : 0 ≤ (x13_1 : Int) := of_decide_eq_true (by first | (with_reducible assumption) | assumption)
                  have q172 : x13_1 < (l0.length : Int) := of_decide_eq_true (by first | (with_reducible assumption) | assumption)
                  obtain ⟨ad172, e172, hx172_0, hx172_1, hx172_2, hx172_3, hx172_4, hx172_5, hx172_6, hx172_7⟩ := at_T30 HR0.out x13_1 p172 q172
                  cases e172
                  replace p172 := eq_true p172
                  replace q172 := eq_true q172
                  have p173 : 0 ≤ (x13_1 : Int) := of_decide_eq_true (by first | (with_reducible assumption) | assumption)
                  have q173 : x13_1 < (l1.length : Int) := of_decide_eq_true (by first | (with_reducible assumption) | assumption)
                  obtain ⟨ad173, e173, hx173_0, hx173_1, hx173_2, hx173_3, hx173_4, hx173_5, hx173_6, hx173_7⟩ := at_T30 HR1.out x13_1 p173 q173
                  cases e173
                  replace p173 := eq_true p173
                  replace q173 := eq_true q173
                  go_wp2
                  repeat (go_quiet (fail); try go_wp2)
                  go_roundg k1
                  case measure => have := HK1.out; omega
                  case rel => exact ⟨(wrap64 (x13_1 + 1)), (by first | rfl | (simp; done) | (simp [*]; done)), H', ⟨by have := HK1.out; omega⟩, by repeat (first | exact Drawn0.refl _ | apply Drawn0.step)⟩
              · rw [if_neg c7] at H
                exact absurd H (by simp)
            · rw [if_neg c6] at H
              exact absurd H (by simp)
          · rw [if_neg c5] at H
            exact absurd H (by simp)
        · rw [if_neg c4] at H
          have c4b0 : decide (x13_1 < (l0.length : Int)) = false := decide_eq_false c4
          clear c4
          obtain rfl := Option.some.inj H
          go_wp2
          repeat (go_quiet (fail); try go_wp2)
          go_ret
          exact ⟨by first | rfl | (simp; done) | (simp [*]; done), by repeat (first | exact Drawn0.refl _ | apply Drawn0.step)⟩
  · rw [if_neg c3] at H
    have c3b0 : ((l0.length : Int) == (l1.length : Int)) = false := beq_eq_false_iff_ne.mpr c3
    have c3b1 : ((l0.length : Int) != (l1.length : Int)) = true := bne_iff_ne.mpr c3
    have c3b2 : (l0.length == l1.length) = false := by first | simpa using c3 | (simp at c3 ⊢; omega)
    obtain rfl := Option.some.inj H
    go_enter Tryd.func11, Tryd.ntmps11
    go_wp2
    repeat (go_quiet (fail); try go_wp2)
    go_ret
    exact ⟨by first | rfl | (simp; done) | (simp [*]; done), by repeat (first | exact Drawn0.refl _ | apply Drawn0.step)⟩

end Go.Proofs.YtbgoedhpndflpaaDoor.PSay

/- The printed text PSayx6, mended: the table of tens is asked for (wip/tools/fixsay.py). -/
-- Printed by a program of this session over its told contracts; Lean checks it.
import Derived.Test.YtbgoedhpndflpaaDoorPSayx0
import Derived.Test.YtbgoedhpndflpaaDoorSayItems
namespace Go.Proofs.YtbgoedhpndflpaaDoor.PSay
open Go.RowKit Go.Proofs.YtbgoedhpndflpaaDoorW.PrintWords Go.Proofs.YtbgoedhpndflpaaDoorW.PrintLast Go.Proofs.YtbgoedhpndflpaaDoorW.PrintMore
attribute [local go_sem] max2_int min2_int max_two min_two max_three min_three max_four min_four   -- for this text's walks alone
set_option linter.unusedVariables false
set_option linter.unusedSimpArgs false

/-! ### tattlerref09_Decimal: function 25 -/
def tattlerref09_Decimal.l0 : Nat → Int → ByteArray → Option (ByteArray)
  | 0, _, _ => none
  | k + 1, x0, x3 => if x0 > 0 then ((some (([(IntKind.u64.wrap (48 + (Int.tmod x0 10))) % 256] : List Int) : List Int)).bind fun y142 => (if (strOfNums y142).size + x3.size ≤ 9223372036854775807 then (tattlerref09_Decimal.l0 k (IntKind.u64.wrap (Int.tdiv x0 10)) ((strOfNums y142) ++ x3)) else (none))) else (some x3)
def tattlerref09_Decimal.f (k : Nat) (a0 : Int) : Option (ByteArray) := tattlerref09_Decimal.l0 k (IntKind.u64.wrap (Int.tdiv a0 10)) (strOfNums (([(IntKind.u64.wrap (48 + (Int.tmod a0 10))) % 256] : List Int)))
theorem tattlerref09_Decimal.mono_l : ∀ k, (∀ y0 y1, LeO (tattlerref09_Decimal.l0 k y0 y1) (tattlerref09_Decimal.l0 (k + 1) y0 y1))
  | 0 => fun _ _ r h => by simp [tattlerref09_Decimal.l0] at h
  | k + 1 => by
    have ih0 := tattlerref09_Decimal.mono_l k
    · intro y0 y1
      unfold tattlerref09_Decimal.l0
      repeat' first
      | (with_reducible exact ih0 _ _)
      | (with_reducible exact LeO.refl _)
      | (with_reducible exact LeO.none _)
      | (with_reducible refine LeO.ite ?_ ?_)
      | (with_reducible refine LeO.bind ?_ (fun _ => ?_))
      | exact ih0 _ _
      | exact LeO.none _
      | refine LeO.ite ?_ ?_
      | refine LeO.bind ?_ (fun _ => ?_)
theorem tattlerref09_Decimal.mono : ∀ a0 k, LeO (tattlerref09_Decimal.f k a0) (tattlerref09_Decimal.f (k + 1) a0) := by
  intro a0 k
  have ih0 := tattlerref09_Decimal.mono_l k
  unfold tattlerref09_Decimal.f
  repeat' first
      | (with_reducible exact ih0 _ _)
      | (with_reducible exact LeO.refl _)
      | (with_reducible exact LeO.none _)
      | (with_reducible refine LeO.ite ?_ ?_)
      | (with_reducible refine LeO.bind ?_ (fun _ => ?_))
      | exact ih0 _ _
      | exact LeO.none _
      | refine LeO.ite ?_ ?_
      | refine LeO.bind ?_ (fun _ => ?_)
set_option maxHeartbeats 8000000 in
set_option maxRecDepth 100000 in
theorem tattlerref09_Decimal.calls (k : Nat) (a0 : Int) (r : ByteArray) (w : World) (h : tattlerref09_Decimal.f k a0 = some r) :
    Calls Tryd.prog 25 #[.int .u64 a0] w fun e w' => e = .returned (.string r) ∧ Below w.heap.size w w' := by
  have HB := Aside0.mk (Below.refl w.heap.size w)
  have H : (tattlerref09_Decimal.l0 k (IntKind.u64.wrap (Int.tdiv a0 10)) (strOfNums (([(IntKind.u64.wrap (48 + (Int.tmod a0 10))) % 256] : List Int)))) = some r := h
  clear h
  obtain ⟨y139, hy139⟩ : ∃ y_ : List Int, y_ = (([(IntKind.u64.wrap (48 + (Int.tmod a0 10))) % 256] : List Int)) := ⟨_, rfl⟩
  replace H : (tattlerref09_Decimal.l0 k (IntKind.u64.wrap (Int.tdiv a0 10)) (strOfNums y139)) = some r := by first | (rw [hy139]; with_reducible exact H) | (have H2_ := (Option.bind_some _ _).symm.trans H; rw [hy139]; with_reducible exact H2_) | (have H2_ := (Option.bind_some _ _).symm.trans H; with_reducible exact H2_) | with_reducible exact H | (rw [hy139]; exact H) | exact H
  have Ny139 := Aside0.mk hy139
  clear hy139
  have H' := Aside0.mk H
  clear H
  go_enter Tryd.func25, Tryd.ntmps25
  go_wp2_with (first | ((with_reducible refine gate_dst (N := 8) rfl ?_); refine Kd.R_lit (Kd.int .u8) _ 5 ?hg (N := 8) ?hd (xs := ([(IntKind.u64.wrap (48 + (Int.tmod a0 10))) % 256] : List Int)) (inner := [.int .u8 ((IntKind.u64.wrap (48 + (Int.tmod a0 10))) % 256)]) (ok := fun _ => True) (okp := fun _ => True) ?hr ?hp (fun _ hk => hk) trivial (Below.refl _ _) (Nat.le_refl _) (by simp) ?_; (case hd => rfl); (case hg => rfl); (case hr => first | (go_simp; done) | (go_simp; rfl)); (case hp => exact (Reps.one (show Kd.M (Kd.int .u8) _ _ _ ((IntKind.u64.wrap (48 + (Int.tmod a0 10))) % 256) [.int .u8 ((IntKind.u64.wrap (48 + (Int.tmod a0 10))) % 256)] from rfl) (Reps.none _ _))); intro v140 w2 ho3 hb hg_ hnew_; clear hg_ hnew_; (first | rw [← Ny139.out] at ho3 | (simp only [Int.reduceToNat] at ho3; rw [← Ny139.out] at ho3)); have n0_ := Aside0.mk (Kd.R_lower ho3 (below_size (by repeat (first | (with_reducible first | exact HB.out | apply below_alloc | apply pw_below_drewN | apply below_drew1) | exact HB.out)))); have n1_ := Aside0.mk (below_step (by repeat (first | (with_reducible first | exact HB.out | apply below_alloc | apply pw_below_drewN | apply below_drew1) | exact HB.out)) hb); clear HB; have HO141 := n0_; have HB := n1_; clear n0_ n1_; clear hb ho3; have hcv4 := own_string (P := Tryd.prog) Tryd.underlying47 Tryd.underlying5 Tryd.underlying9 (Kd.own_of_R HO141.out)))
  go_loopg [0, 3] k (fun kq v0 v3 w' => ∃ (x0_1 : Int) (x3_1 : ByteArray), v0 = .int .u64 x0_1 ∧ v3 = .string x3_1 ∧ Aside0 (tattlerref09_Decimal.l0 kq x0_1 x3_1 = some r) ∧ Aside0 (kq ≤ k) ∧ Aside0 (Below w.heap.size w w'))
  case atStart => exact ⟨(IntKind.u64.wrap (Int.tdiv a0 10)), (strOfNums y139), (by first | rfl | (simp; done) | (simp [*]; done)), (by first | rfl | (simp; done) | (simp [*]; done)), H', ⟨Nat.le_refl _⟩, ⟨by repeat (first | (with_reducible first | exact HB.out | apply below_alloc | apply pw_below_drewN | apply below_drew1) | exact HB.out)⟩⟩
  case round =>
    clear H'
    try clear c2
    try clear p2
    try clear hcv4
    obtain ⟨x0_1, x3_1, rfl, rfl, HA, HK1, HB⟩ := hrel
    cases gk with
    | zero => exact absurd HA.out (by simp [tattlerref09_Decimal.l0])
    | succ k1 =>
      have H := HA.out
      clear HA
      simp only [tattlerref09_Decimal.l0] at H
      by_cases c5 : x0_1 > 0
      · rw [if_pos c5] at H
        have c5b0 : decide (0 < x0_1) = true := decide_eq_true c5
        clear c5
        obtain ⟨y142, hy142⟩ : ∃ y_ : List Int, y_ = (([(IntKind.u64.wrap (48 + (Int.tmod x0_1 10))) % 256] : List Int)) := ⟨_, rfl⟩
        replace H : (if (strOfNums y142).size + x3_1.size ≤ 9223372036854775807 then (tattlerref09_Decimal.l0 k1 (IntKind.u64.wrap (Int.tdiv x0_1 10)) ((strOfNums y142) ++ x3_1)) else (none)) = some r := by first | (rw [hy142]; with_reducible exact H) | (have H2_ := (Option.bind_some _ _).symm.trans H; rw [hy142]; with_reducible exact H2_) | (have H2_ := (Option.bind_some _ _).symm.trans H; with_reducible exact H2_) | with_reducible exact H | (rw [hy142]; exact H) | exact H
        have Ny142 := Aside0.mk hy142
        clear hy142
        by_cases c6 : (strOfNums y142).size + x3_1.size ≤ 9223372036854775807
        · rw [if_pos c6] at H
          have c6b0 := eq_true c6
          have c6b1 : decide ((strOfNums y142).size + x3_1.size ≤ 9223372036854775807) = true := decide_eq_true c6
          try have c6b2 : (9223372036854775807 < (strOfNums y142).size + x3_1.size) = False := eq_false (Nat.not_lt.2 c6)
          have H' := Aside0.mk H
          clear H
          go_wp2_with (first | ((with_reducible refine gate_dst (N := 20) rfl ?_); refine Kd.R_lit (Kd.int .u8) _ 5 ?hg (N := 20) ?hd (xs := ([(IntKind.u64.wrap (48 + (Int.tmod x0_1 10))) % 256] : List Int)) (inner := [.int .u8 ((IntKind.u64.wrap (48 + (Int.tmod x0_1 10))) % 256)]) (ok := fun _ => True) (okp := fun _ => True) ?hr ?hp (fun _ hk => hk) trivial (Below.refl _ _) (Nat.le_refl _) (by simp) ?_; (case hd => rfl); (case hg => rfl); (case hr => first | (go_simp; done) | (go_simp; rfl)); (case hp => exact (Reps.one (show Kd.M (Kd.int .u8) _ _ _ ((IntKind.u64.wrap (48 + (Int.tmod x0_1 10))) % 256) [.int .u8 ((IntKind.u64.wrap (48 + (Int.tmod x0_1 10))) % 256)] from rfl) (Reps.none _ _))); intro v143 w7 ho8 hb hg_ hnew_; clear hg_ hnew_; (first | rw [← Ny142.out] at ho8 | (simp only [Int.reduceToNat] at ho8; rw [← Ny142.out] at ho8)); have n0_ := Aside0.mk (Kd.R_lower ho8 (below_size (by repeat (first | (with_reducible first | exact HB.out | apply below_alloc | apply pw_below_drewN | apply below_drew1) | exact HB.out)))); have n1_ := Aside0.mk (below_step (by repeat (first | (with_reducible first | exact HB.out | apply below_alloc | apply pw_below_drewN | apply below_drew1) | exact HB.out)) hb); clear HB; have HO144 := n0_; have HB := n1_; clear n0_ n1_; clear hb ho8; have hcv9 := own_string (P := Tryd.prog) Tryd.underlying47 Tryd.underlying5 Tryd.underlying9 (Kd.own_of_R HO144.out)))
          go_roundg k1
          case measure => have := HK1.out; omega
          case rel => exact ⟨(IntKind.u64.wrap (Int.tdiv x0_1 10)), ((strOfNums y142) ++ x3_1), (by first | rfl | (simp; done) | (simp [*]; done)), (by first | rfl | (simp; done) | (simp [*]; done)), H', ⟨by have := HK1.out; omega⟩, ⟨by repeat (first | (with_reducible first | exact HB.out | apply below_alloc | apply pw_below_drewN | apply below_drew1) | exact HB.out)⟩⟩
        · rw [if_neg c6] at H
          exact absurd H (by simp)
      · rw [if_neg c5] at H
        have c5b0 : decide (0 < x0_1) = false := decide_eq_false c5
        clear c5
        obtain rfl := Option.some.inj H
        go_wp2
        go_ret
        exact ⟨by first | rfl | (simp [errW_none, errW_some] <;> rfl) | (simp [*, errW_none, errW_some] <;> rfl), by repeat (first | (with_reducible first | exact HB.out | apply below_alloc | apply pw_below_drewN | apply below_drew1) | exact HB.out)⟩

/-! ### tattlerref09_Item: function 24 -/
def tattlerref09_Item.f (k : Nat) (a0_0 : ByteArray) (a0_1 : Int) (a0_2 : Int) (a0_3 : Int) (a0_4 : Int) (a0_5 : Int) (a0_6 : Int) (a0_7 : ByteArray) : Option (ByteArray) := if 6 + a0_0.size ≤ 9223372036854775807 then (if ((⟨#[86, 65, 76, 85, 69, 32]⟩ : ByteArray) ++ a0_0).size + 1 ≤ 9223372036854775807 then ((tattlerref09_Decimal.f k (IntKind.u64.wrap (a0_5))).bind fun t146 => (if (((⟨#[86, 65, 76, 85, 69, 32]⟩ : ByteArray) ++ a0_0) ++ (⟨#[32]⟩ : ByteArray)).size + t146.size ≤ 9223372036854775807 then (if ((((⟨#[86, 65, 76, 85, 69, 32]⟩ : ByteArray) ++ a0_0) ++ (⟨#[32]⟩ : ByteArray)) ++ t146).size + 1 ≤ 9223372036854775807 then ((tattlerref09_Decimal.f k (IntKind.u64.wrap ((a0_7.size : Int)))).bind fun t147 => (if (((((⟨#[86, 65, 76, 85, 69, 32]⟩ : ByteArray) ++ a0_0) ++ (⟨#[32]⟩ : ByteArray)) ++ t146) ++ (⟨#[32]⟩ : ByteArray)).size + t147.size ≤ 9223372036854775807 then (if ((((((⟨#[86, 65, 76, 85, 69, 32]⟩ : ByteArray) ++ a0_0) ++ (⟨#[32]⟩ : ByteArray)) ++ t146) ++ (⟨#[32]⟩ : ByteArray)) ++ t147).size + 2 ≤ 9223372036854775807 then (if (((((((⟨#[86, 65, 76, 85, 69, 32]⟩ : ByteArray) ++ a0_0) ++ (⟨#[32]⟩ : ByteArray)) ++ t146) ++ (⟨#[32]⟩ : ByteArray)) ++ t147) ++ (⟨#[13, 10]⟩ : ByteArray)).size + a0_7.size ≤ 9223372036854775807 then (if ((((((((⟨#[86, 65, 76, 85, 69, 32]⟩ : ByteArray) ++ a0_0) ++ (⟨#[32]⟩ : ByteArray)) ++ t146) ++ (⟨#[32]⟩ : ByteArray)) ++ t147) ++ (⟨#[13, 10]⟩ : ByteArray)) ++ a0_7).size + 2 ≤ 9223372036854775807 then (some (((((((((⟨#[86, 65, 76, 85, 69, 32]⟩ : ByteArray) ++ a0_0) ++ (⟨#[32]⟩ : ByteArray)) ++ t146) ++ (⟨#[32]⟩ : ByteArray)) ++ t147) ++ (⟨#[13, 10]⟩ : ByteArray)) ++ a0_7) ++ (⟨#[13, 10]⟩ : ByteArray))) else (none)) else (none)) else (none)) else (none))) else (none)) else (none))) else (none)) else (none)
theorem tattlerref09_Item.mono : ∀ a0 a1 a2 a3 a4 a5 a6 a7 k, LeO (tattlerref09_Item.f k a0 a1 a2 a3 a4 a5 a6 a7) (tattlerref09_Item.f (k + 1) a0 a1 a2 a3 a4 a5 a6 a7) := by
  intro a0 a1 a2 a3 a4 a5 a6 a7 k
  unfold tattlerref09_Item.f
  repeat' first
      | (with_reducible exact tattlerref09_Decimal.mono _ _)
      | (with_reducible exact LeO.refl _)
      | (with_reducible exact LeO.none _)
      | (with_reducible refine LeO.ite ?_ ?_)
      | (with_reducible refine LeO.bind ?_ (fun _ => ?_))
      | exact tattlerref09_Decimal.mono _ _
      | exact LeO.none _
      | refine LeO.ite ?_ ?_
      | refine LeO.bind ?_ (fun _ => ?_)
def tattlerref09_Item.T1 : Bool × List (List Nat × List Nat) := (true, [([], []), ([0], [0]), ([1], [1]), ([2], [2]), ([], []), ([4], [4]), ([5], [5]), ([6], [6]), ([3, 7], [3, 7]), ([8], [8]), ([], []), ([10], [10]), ([11], [11]), ([12], [12]), ([13, 7], [13]), ([9, 14], [9, 14]), ([15], [15]), ([], []), ([17], [17]), ([16, 18], [16, 18]), ([19], [19]), ([20, 14, 0, 1, 2, 3, 4, 5, 6, 7, 8, 9, 10, 11, 12, 13, 14, 15, 16, 17, 18, 19, 20], [20])])
def tattlerref09_Item.B1 : List Nat := [0, 1, 3, 7, 0, 16, 48, 112, 255, 511, 0, 1024, 3072, 7168, 15600, 32767, 65535, 0, 131072, 524287, 1048575, 2097151]
theorem tattlerref09_Item.tab1 : rtab .any (opsOf Tryd.f24 1) = tattlerref09_Item.T1 := by kernel_rfl
theorem tattlerref09_Item.bits1 : waitsOk tattlerref09_Item.T1.2 tattlerref09_Item.B1 = true := by kernel_rfl
set_option maxHeartbeats 8000000 in
set_option maxRecDepth 100000 in
theorem tattlerref09_Item.calls (k : Nat) (a0_0 : ByteArray) (a0_1 : Int) (a0_2 : Int) (a0_3 : Int) (a0_4 : Int) (a0_5 : Int) (a0_6 : Int) (a0_7 : ByteArray) (r : ByteArray) (w : World) (h : tattlerref09_Item.f k a0_0 a0_1 a0_2 a0_3 a0_4 a0_5 a0_6 a0_7 = some r) :
    Calls Tryd.prog 24 #[.agg #[.string a0_0, .int .u64 a0_1, .int .u32 a0_2, .int .u8 a0_3, .int .u8 a0_4, .int .u32 a0_5, .int .u64 a0_6, .string a0_7]] w fun e w' => e = .returned (.string r) ∧ Below w.heap.size w w' := by
  have hu30 := Tryd.underlying30
  have HB := Aside0.mk (Below.refl w.heap.size w)
  have H : (if 6 + a0_0.size ≤ 9223372036854775807 then (if ((⟨#[86, 65, 76, 85, 69, 32]⟩ : ByteArray) ++ a0_0).size + 1 ≤ 9223372036854775807 then ((tattlerref09_Decimal.f k (IntKind.u64.wrap (a0_5))).bind fun t146 => (if (((⟨#[86, 65, 76, 85, 69, 32]⟩ : ByteArray) ++ a0_0) ++ (⟨#[32]⟩ : ByteArray)).size + t146.size ≤ 9223372036854775807 then (if ((((⟨#[86, 65, 76, 85, 69, 32]⟩ : ByteArray) ++ a0_0) ++ (⟨#[32]⟩ : ByteArray)) ++ t146).size + 1 ≤ 9223372036854775807 then ((tattlerref09_Decimal.f k (IntKind.u64.wrap ((a0_7.size : Int)))).bind fun t147 => (if (((((⟨#[86, 65, 76, 85, 69, 32]⟩ : ByteArray) ++ a0_0) ++ (⟨#[32]⟩ : ByteArray)) ++ t146) ++ (⟨#[32]⟩ : ByteArray)).size + t147.size ≤ 9223372036854775807 then (if ((((((⟨#[86, 65, 76, 85, 69, 32]⟩ : ByteArray) ++ a0_0) ++ (⟨#[32]⟩ : ByteArray)) ++ t146) ++ (⟨#[32]⟩ : ByteArray)) ++ t147).size + 2 ≤ 9223372036854775807 then (if (((((((⟨#[86, 65, 76, 85, 69, 32]⟩ : ByteArray) ++ a0_0) ++ (⟨#[32]⟩ : ByteArray)) ++ t146) ++ (⟨#[32]⟩ : ByteArray)) ++ t147) ++ (⟨#[13, 10]⟩ : ByteArray)).size + a0_7.size ≤ 9223372036854775807 then (if ((((((((⟨#[86, 65, 76, 85, 69, 32]⟩ : ByteArray) ++ a0_0) ++ (⟨#[32]⟩ : ByteArray)) ++ t146) ++ (⟨#[32]⟩ : ByteArray)) ++ t147) ++ (⟨#[13, 10]⟩ : ByteArray)) ++ a0_7).size + 2 ≤ 9223372036854775807 then (some (((((((((⟨#[86, 65, 76, 85, 69, 32]⟩ : ByteArray) ++ a0_0) ++ (⟨#[32]⟩ : ByteArray)) ++ t146) ++ (⟨#[32]⟩ : ByteArray)) ++ t147) ++ (⟨#[13, 10]⟩ : ByteArray)) ++ a0_7) ++ (⟨#[13, 10]⟩ : ByteArray))) else (none)) else (none)) else (none)) else (none))) else (none)) else (none))) else (none)) else (none)) = some r := h
  clear h
  by_cases c2 : 6 + a0_0.size ≤ 9223372036854775807
  · rw [if_pos c2] at H
    have c2b0 := eq_true c2
    have c2b1 : decide (6 + a0_0.size ≤ 9223372036854775807) = true := decide_eq_true c2
    try have c2b2 : (9223372036854775807 < 6 + a0_0.size) = False := eq_false (Nat.not_lt.2 c2)
    by_cases c3 : ((⟨#[86, 65, 76, 85, 69, 32]⟩ : ByteArray) ++ a0_0).size + 1 ≤ 9223372036854775807
    · rw [if_pos c3] at H
      have c3b0 := eq_true c3
      have c3b1 : decide (((⟨#[86, 65, 76, 85, 69, 32]⟩ : ByteArray) ++ a0_0).size + 1 ≤ 9223372036854775807) = true := decide_eq_true c3
      try have c3b2 : (9223372036854775807 < ((⟨#[86, 65, 76, 85, 69, 32]⟩ : ByteArray) ++ a0_0).size + 1) = False := eq_false (Nat.not_lt.2 c3)
      have c3b3 : (9223372036854775807 < 6 + a0_0.size + 1) = False := eq_false (by have h_ := c3; simp only [ByteArray.size_append, show (⟨#[86, 65, 76, 85, 69, 32]⟩ : ByteArray).size = 6 from rfl, show (⟨#[32]⟩ : ByteArray).size = 1 from rfl, show (⟨#[13, 10]⟩ : ByteArray).size = 2 from rfl, show (⟨#[83, 84, 65, 84, 32]⟩ : ByteArray).size = 5 from rfl, show (⟨#[69, 78, 68, 13, 10]⟩ : ByteArray).size = 5 from rfl] at h_; omega)
      replace H := Option.bind_eq_some_iff.mp H
      obtain ⟨t146, A40, H⟩ := H
      replace H : (if (((⟨#[86, 65, 76, 85, 69, 32]⟩ : ByteArray) ++ a0_0) ++ (⟨#[32]⟩ : ByteArray)).size + t146.size ≤ 9223372036854775807 then (if ((((⟨#[86, 65, 76, 85, 69, 32]⟩ : ByteArray) ++ a0_0) ++ (⟨#[32]⟩ : ByteArray)) ++ t146).size + 1 ≤ 9223372036854775807 then ((tattlerref09_Decimal.f k (IntKind.u64.wrap ((a0_7.size : Int)))).bind fun t147 => (if (((((⟨#[86, 65, 76, 85, 69, 32]⟩ : ByteArray) ++ a0_0) ++ (⟨#[32]⟩ : ByteArray)) ++ t146) ++ (⟨#[32]⟩ : ByteArray)).size + t147.size ≤ 9223372036854775807 then (if ((((((⟨#[86, 65, 76, 85, 69, 32]⟩ : ByteArray) ++ a0_0) ++ (⟨#[32]⟩ : ByteArray)) ++ t146) ++ (⟨#[32]⟩ : ByteArray)) ++ t147).size + 2 ≤ 9223372036854775807 then (if (((((((⟨#[86, 65, 76, 85, 69, 32]⟩ : ByteArray) ++ a0_0) ++ (⟨#[32]⟩ : ByteArray)) ++ t146) ++ (⟨#[32]⟩ : ByteArray)) ++ t147) ++ (⟨#[13, 10]⟩ : ByteArray)).size + a0_7.size ≤ 9223372036854775807 then (if ((((((((⟨#[86, 65, 76, 85, 69, 32]⟩ : ByteArray) ++ a0_0) ++ (⟨#[32]⟩ : ByteArray)) ++ t146) ++ (⟨#[32]⟩ : ByteArray)) ++ t147) ++ (⟨#[13, 10]⟩ : ByteArray)) ++ a0_7).size + 2 ≤ 9223372036854775807 then (some (((((((((⟨#[86, 65, 76, 85, 69, 32]⟩ : ByteArray) ++ a0_0) ++ (⟨#[32]⟩ : ByteArray)) ++ t146) ++ (⟨#[32]⟩ : ByteArray)) ++ t147) ++ (⟨#[13, 10]⟩ : ByteArray)) ++ a0_7) ++ (⟨#[13, 10]⟩ : ByteArray))) else (none)) else (none)) else (none)) else (none))) else (none)) else (none)) = some r := H
      have A4 := Aside0.mk A40
      clear A40
      by_cases c5 : (((⟨#[86, 65, 76, 85, 69, 32]⟩ : ByteArray) ++ a0_0) ++ (⟨#[32]⟩ : ByteArray)).size + t146.size ≤ 9223372036854775807
      · rw [if_pos c5] at H
        have c5b0 := eq_true c5
        have c5b1 : decide ((((⟨#[86, 65, 76, 85, 69, 32]⟩ : ByteArray) ++ a0_0) ++ (⟨#[32]⟩ : ByteArray)).size + t146.size ≤ 9223372036854775807) = true := decide_eq_true c5
        try have c5b2 : (9223372036854775807 < (((⟨#[86, 65, 76, 85, 69, 32]⟩ : ByteArray) ++ a0_0) ++ (⟨#[32]⟩ : ByteArray)).size + t146.size) = False := eq_false (Nat.not_lt.2 c5)
        have c5b3 : (9223372036854775807 < 6 + a0_0.size + 1 + t146.size) = False := eq_false (by have h_ := c5; simp only [ByteArray.size_append, show (⟨#[86, 65, 76, 85, 69, 32]⟩ : ByteArray).size = 6 from rfl, show (⟨#[32]⟩ : ByteArray).size = 1 from rfl, show (⟨#[13, 10]⟩ : ByteArray).size = 2 from rfl, show (⟨#[83, 84, 65, 84, 32]⟩ : ByteArray).size = 5 from rfl, show (⟨#[69, 78, 68, 13, 10]⟩ : ByteArray).size = 5 from rfl] at h_; omega)
        by_cases c6 : ((((⟨#[86, 65, 76, 85, 69, 32]⟩ : ByteArray) ++ a0_0) ++ (⟨#[32]⟩ : ByteArray)) ++ t146).size + 1 ≤ 9223372036854775807
        · rw [if_pos c6] at H
          have c6b0 := eq_true c6
          have c6b1 : decide (((((⟨#[86, 65, 76, 85, 69, 32]⟩ : ByteArray) ++ a0_0) ++ (⟨#[32]⟩ : ByteArray)) ++ t146).size + 1 ≤ 9223372036854775807) = true := decide_eq_true c6
          try have c6b2 : (9223372036854775807 < ((((⟨#[86, 65, 76, 85, 69, 32]⟩ : ByteArray) ++ a0_0) ++ (⟨#[32]⟩ : ByteArray)) ++ t146).size + 1) = False := eq_false (Nat.not_lt.2 c6)
          have c6b3 : (9223372036854775807 < 6 + a0_0.size + 1 + t146.size + 1) = False := eq_false (by have h_ := c6; simp only [ByteArray.size_append, show (⟨#[86, 65, 76, 85, 69, 32]⟩ : ByteArray).size = 6 from rfl, show (⟨#[32]⟩ : ByteArray).size = 1 from rfl, show (⟨#[13, 10]⟩ : ByteArray).size = 2 from rfl, show (⟨#[83, 84, 65, 84, 32]⟩ : ByteArray).size = 5 from rfl, show (⟨#[69, 78, 68, 13, 10]⟩ : ByteArray).size = 5 from rfl] at h_; omega)
          replace H := Option.bind_eq_some_iff.mp H
          obtain ⟨t147, A70, H⟩ := H
          replace H : (if (((((⟨#[86, 65, 76, 85, 69, 32]⟩ : ByteArray) ++ a0_0) ++ (⟨#[32]⟩ : ByteArray)) ++ t146) ++ (⟨#[32]⟩ : ByteArray)).size + t147.size ≤ 9223372036854775807 then (if ((((((⟨#[86, 65, 76, 85, 69, 32]⟩ : ByteArray) ++ a0_0) ++ (⟨#[32]⟩ : ByteArray)) ++ t146) ++ (⟨#[32]⟩ : ByteArray)) ++ t147).size + 2 ≤ 9223372036854775807 then (if (((((((⟨#[86, 65, 76, 85, 69, 32]⟩ : ByteArray) ++ a0_0) ++ (⟨#[32]⟩ : ByteArray)) ++ t146) ++ (⟨#[32]⟩ : ByteArray)) ++ t147) ++ (⟨#[13, 10]⟩ : ByteArray)).size + a0_7.size ≤ 9223372036854775807 then (if ((((((((⟨#[86, 65, 76, 85, 69, 32]⟩ : ByteArray) ++ a0_0) ++ (⟨#[32]⟩ : ByteArray)) ++ t146) ++ (⟨#[32]⟩ : ByteArray)) ++ t147) ++ (⟨#[13, 10]⟩ : ByteArray)) ++ a0_7).size + 2 ≤ 9223372036854775807 then (some (((((((((⟨#[86, 65, 76, 85, 69, 32]⟩ : ByteArray) ++ a0_0) ++ (⟨#[32]⟩ : ByteArray)) ++ t146) ++ (⟨#[32]⟩ : ByteArray)) ++ t147) ++ (⟨#[13, 10]⟩ : ByteArray)) ++ a0_7) ++ (⟨#[13, 10]⟩ : ByteArray))) else (none)) else (none)) else (none)) else (none)) = some r := H
          have A7 := Aside0.mk A70
          clear A70
          by_cases c8 : (((((⟨#[86, 65, 76, 85, 69, 32]⟩ : ByteArray) ++ a0_0) ++ (⟨#[32]⟩ : ByteArray)) ++ t146) ++ (⟨#[32]⟩ : ByteArray)).size + t147.size ≤ 9223372036854775807
          · rw [if_pos c8] at H
            have c8b0 := eq_true c8
            have c8b1 : decide ((((((⟨#[86, 65, 76, 85, 69, 32]⟩ : ByteArray) ++ a0_0) ++ (⟨#[32]⟩ : ByteArray)) ++ t146) ++ (⟨#[32]⟩ : ByteArray)).size + t147.size ≤ 9223372036854775807) = true := decide_eq_true c8
            try have c8b2 : (9223372036854775807 < (((((⟨#[86, 65, 76, 85, 69, 32]⟩ : ByteArray) ++ a0_0) ++ (⟨#[32]⟩ : ByteArray)) ++ t146) ++ (⟨#[32]⟩ : ByteArray)).size + t147.size) = False := eq_false (Nat.not_lt.2 c8)
            have c8b3 : (9223372036854775807 < 6 + a0_0.size + 1 + t146.size + 1 + t147.size) = False := eq_false (by have h_ := c8; simp only [ByteArray.size_append, show (⟨#[86, 65, 76, 85, 69, 32]⟩ : ByteArray).size = 6 from rfl, show (⟨#[32]⟩ : ByteArray).size = 1 from rfl, show (⟨#[13, 10]⟩ : ByteArray).size = 2 from rfl, show (⟨#[83, 84, 65, 84, 32]⟩ : ByteArray).size = 5 from rfl, show (⟨#[69, 78, 68, 13, 10]⟩ : ByteArray).size = 5 from rfl] at h_; omega)
            by_cases c9 : ((((((⟨#[86, 65, 76, 85, 69, 32]⟩ : ByteArray) ++ a0_0) ++ (⟨#[32]⟩ : ByteArray)) ++ t146) ++ (⟨#[32]⟩ : ByteArray)) ++ t147).size + 2 ≤ 9223372036854775807
            · rw [if_pos c9] at H
              have c9b0 := eq_true c9
              have c9b1 : decide (((((((⟨#[86, 65, 76, 85, 69, 32]⟩ : ByteArray) ++ a0_0) ++ (⟨#[32]⟩ : ByteArray)) ++ t146) ++ (⟨#[32]⟩ : ByteArray)) ++ t147).size + 2 ≤ 9223372036854775807) = true := decide_eq_true c9
              try have c9b2 : (9223372036854775807 < ((((((⟨#[86, 65, 76, 85, 69, 32]⟩ : ByteArray) ++ a0_0) ++ (⟨#[32]⟩ : ByteArray)) ++ t146) ++ (⟨#[32]⟩ : ByteArray)) ++ t147).size + 2) = False := eq_false (Nat.not_lt.2 c9)
              have c9b3 : (9223372036854775807 < 6 + a0_0.size + 1 + t146.size + 1 + t147.size + 2) = False := eq_false (by have h_ := c9; simp only [ByteArray.size_append, show (⟨#[86, 65, 76, 85, 69, 32]⟩ : ByteArray).size = 6 from rfl, show (⟨#[32]⟩ : ByteArray).size = 1 from rfl, show (⟨#[13, 10]⟩ : ByteArray).size = 2 from rfl, show (⟨#[83, 84, 65, 84, 32]⟩ : ByteArray).size = 5 from rfl, show (⟨#[69, 78, 68, 13, 10]⟩ : ByteArray).size = 5 from rfl] at h_; omega)
              by_cases c10 : (((((((⟨#[86, 65, 76, 85, 69, 32]⟩ : ByteArray) ++ a0_0) ++ (⟨#[32]⟩ : ByteArray)) ++ t146) ++ (⟨#[32]⟩ : ByteArray)) ++ t147) ++ (⟨#[13, 10]⟩ : ByteArray)).size + a0_7.size ≤ 9223372036854775807
              · rw [if_pos c10] at H
                have c10b0 := eq_true c10
                have c10b1 : decide ((((((((⟨#[86, 65, 76, 85, 69, 32]⟩ : ByteArray) ++ a0_0) ++ (⟨#[32]⟩ : ByteArray)) ++ t146) ++ (⟨#[32]⟩ : ByteArray)) ++ t147) ++ (⟨#[13, 10]⟩ : ByteArray)).size + a0_7.size ≤ 9223372036854775807) = true := decide_eq_true c10
                try have c10b2 : (9223372036854775807 < (((((((⟨#[86, 65, 76, 85, 69, 32]⟩ : ByteArray) ++ a0_0) ++ (⟨#[32]⟩ : ByteArray)) ++ t146) ++ (⟨#[32]⟩ : ByteArray)) ++ t147) ++ (⟨#[13, 10]⟩ : ByteArray)).size + a0_7.size) = False := eq_false (Nat.not_lt.2 c10)
                have c10b3 : (9223372036854775807 < 6 + a0_0.size + 1 + t146.size + 1 + t147.size + 2 + a0_7.size) = False := eq_false (by have h_ := c10; simp only [ByteArray.size_append, show (⟨#[86, 65, 76, 85, 69, 32]⟩ : ByteArray).size = 6 from rfl, show (⟨#[32]⟩ : ByteArray).size = 1 from rfl, show (⟨#[13, 10]⟩ : ByteArray).size = 2 from rfl, show (⟨#[83, 84, 65, 84, 32]⟩ : ByteArray).size = 5 from rfl, show (⟨#[69, 78, 68, 13, 10]⟩ : ByteArray).size = 5 from rfl] at h_; omega)
                by_cases c11 : ((((((((⟨#[86, 65, 76, 85, 69, 32]⟩ : ByteArray) ++ a0_0) ++ (⟨#[32]⟩ : ByteArray)) ++ t146) ++ (⟨#[32]⟩ : ByteArray)) ++ t147) ++ (⟨#[13, 10]⟩ : ByteArray)) ++ a0_7).size + 2 ≤ 9223372036854775807
                · rw [if_pos c11] at H
                  have c11b0 := eq_true c11
                  have c11b1 : decide (((((((((⟨#[86, 65, 76, 85, 69, 32]⟩ : ByteArray) ++ a0_0) ++ (⟨#[32]⟩ : ByteArray)) ++ t146) ++ (⟨#[32]⟩ : ByteArray)) ++ t147) ++ (⟨#[13, 10]⟩ : ByteArray)) ++ a0_7).size + 2 ≤ 9223372036854775807) = true := decide_eq_true c11
                  try have c11b2 : (9223372036854775807 < ((((((((⟨#[86, 65, 76, 85, 69, 32]⟩ : ByteArray) ++ a0_0) ++ (⟨#[32]⟩ : ByteArray)) ++ t146) ++ (⟨#[32]⟩ : ByteArray)) ++ t147) ++ (⟨#[13, 10]⟩ : ByteArray)) ++ a0_7).size + 2) = False := eq_false (Nat.not_lt.2 c11)
                  have c11b3 : (9223372036854775807 < 6 + a0_0.size + 1 + t146.size + 1 + t147.size + 2 + a0_7.size + 2) = False := eq_false (by have h_ := c11; simp only [ByteArray.size_append, show (⟨#[86, 65, 76, 85, 69, 32]⟩ : ByteArray).size = 6 from rfl, show (⟨#[32]⟩ : ByteArray).size = 1 from rfl, show (⟨#[13, 10]⟩ : ByteArray).size = 2 from rfl, show (⟨#[83, 84, 65, 84, 32]⟩ : ByteArray).size = 5 from rfl, show (⟨#[69, 78, 68, 13, 10]⟩ : ByteArray).size = 5 from rfl] at h_; omega)
                  obtain rfl := Option.some.inj H
                  go_enter Tryd.func24, Tryd.ntmps24
                  try go_wp2_with (first | ((with_reducible refine gate_dst (N := 1) rfl ?_); refine box_event ?hg (N := 1) ?hd (cs := #[.string a0_0, .int .u64 a0_1, .int .u32 a0_2, .int .u8 a0_3, .int .u8 a0_4, .int .u32 a0_5, .int .u64 a0_6, .string a0_7]) (t := 30) ?hr ?_; (case hd => rfl); (case hg => rfl); (case hr => first | (go_simp; done) | (go_simp; rfl)); intro gb145 hg w12 hbox hb; have n0_ := Aside0.mk (below_step (by repeat (first | (with_reducible first | exact HB.out | apply below_alloc | apply pw_below_drewN | apply below_drew1) | exact HB.out)) hb); have n1_ := Aside0.mk (hbox); have n2_ := Aside0.mk ((by rw [hg]; exact (below_size (by repeat (first | (with_reducible first | exact HB.out | apply below_alloc | apply pw_below_drewN | apply below_drew1) | exact HB.out))) : w.heap.size ≤ gb145)); have n3_ := Aside0.mk ((by rw [hg]; exact (below_size (by repeat (first | (with_reducible first | exact HB.out | apply below_alloc | apply pw_below_drewN | apply below_drew1) | exact HB.out))) : w.heap.size ≤ gb145)); clear HB; have HB := n0_; have BK145 := n1_; have GW145 := n2_; have GE145 := n3_; clear n0_ n1_ n2_ n3_; clear hb hbox hg))
                  have n0_ := Aside0.mk (blk_drew BK145.out)
                  have n1_ := Aside0.mk (below_drew1 HB.out)
                  clear BK145
                  clear HB
                  have BK145 := n0_
                  have HB := n1_
                  clear n0_ n1_
                  refine start_ (n := 22) (S := fun w' => w'.cell? ⟨gb145, 0, none⟩ = some (.string a0_0) ∧ w'.cell? ⟨gb145, 1, none⟩ = some (.int .u64 a0_1) ∧ w'.cell? ⟨gb145, 2, none⟩ = some (.int .u32 a0_2) ∧ w'.cell? ⟨gb145, 3, none⟩ = some (.int .u8 a0_3) ∧ w'.cell? ⟨gb145, 4, none⟩ = some (.int .u8 a0_4) ∧ w'.cell? ⟨gb145, 5, none⟩ = some (.int .u32 a0_5) ∧ w'.cell? ⟨gb145, 6, none⟩ = some (.int .u64 a0_6) ∧ w'.cell? ⟨gb145, 7, none⟩ = some (.string a0_7)) (ds := []) #[false, false, false, false, false, false, false, false, false, false, false, false, false, false, false, false, false, false, false, false, false, false] (by kernel_rfl) rfl rfl ⟨(blk_cell BK145.out 0).trans rfl, (blk_cell BK145.out 1).trans rfl, (blk_cell BK145.out 2).trans rfl, (blk_cell BK145.out 3).trans rfl, (blk_cell BK145.out 4).trans rfl, (blk_cell BK145.out 5).trans rfl, (blk_cell BK145.out 6).trans rfl, (blk_cell BK145.out 7).trans rfl⟩ (fun hHeld => ?_); refine with_tabW tattlerref09_Item.tab1 tattlerref09_Item.bits1 (fun HT_ HW_ => ?_)
                  generalize w12.drew = w13 at BK145 HB hHeld ⊢
                  refine pure_ (i := 0) (N := some 3) (v := ?_) (a' := ?_) #[true, false, false, false, false, false, false, false, false, false, false, false, false, false, false, false, false, false, false, false, false, false] rfl rfl (any_of HT_.out (by kernel_rfl)) (fun _ _ _ h => h) (Or.inl ⟨by rfl, ?_⟩) ?_ ?_
                  rotate_left
                  · intro w'
                    go_simp
                    with_reducible rfl
                  rotate_left
                  · simp only [Act.put, List.setIfInBounds_toArray, List.set_cons_zero, List.set_cons_succ, i64_w, i32_w]
                    rfl
                  refine pure_ (i := 4) (N := some 7) (v := ?_) (a' := ?_) #[true, false, false, false, true, false, false, false, false, false, false, false, false, false, false, false, false, false, false, false, false, false] rfl rfl (any_of HT_.out (by kernel_rfl)) (fun _ _ _ h => h) (Or.inl ⟨by rfl, ?_⟩) ?_ ?_
                  rotate_left
                  · intro w'
                    go_simp
                    with_reducible rfl
                  rotate_left
                  · simp only [Act.put, List.setIfInBounds_toArray, List.set_cons_zero, List.set_cons_succ, i64_w, i32_w]
                    rfl
                  refine pure_ (i := 10) (N := some 13) (v := ?_) (a' := ?_) #[true, false, false, false, true, false, false, false, false, false, true, false, false, false, false, false, false, false, false, false, false, false] rfl rfl (any_of HT_.out (by kernel_rfl)) (fun _ _ _ h => h) (Or.inl ⟨by rfl, ?_⟩) ?_ ?_
                  rotate_left
                  · intro w'
                    go_simp
                    with_reducible rfl
                  rotate_left
                  · simp only [Act.put, List.setIfInBounds_toArray, List.set_cons_zero, List.set_cons_succ, i64_w, i32_w]
                    rfl
                  refine pure_ (i := 17) (N := some 20) (v := ?_) (a' := ?_) #[true, false, false, false, true, false, false, false, false, false, true, false, false, false, false, false, false, true, false, false, false, false] rfl rfl (any_of HT_.out (by kernel_rfl)) (fun _ _ _ h => h) (Or.inl ⟨by rfl, ?_⟩) ?_ ?_
                  rotate_left
                  · intro w'
                    go_simp
                    with_reducible rfl
                  rotate_left
                  · simp only [Act.put, List.setIfInBounds_toArray, List.set_cons_zero, List.set_cons_succ, i64_w, i32_w]
                    rfl
                  refine take_ (i := 1) (N := some 4) (v := ?_) (a' := ?_) #[true, true, false, false, true, false, false, false, false, false, true, false, false, false, false, false, false, true, false, false, false, false] rfl rfl (take_ofW HT_.out HW_.out (by kernel_rfl)) (fun _ _ _ h => h) (Or.inl ⟨by rfl, ?_⟩) hHeld ?_ ?_
                  rotate_left
                  · rintro w' ⟨s0, s1, s2, s3, s4, s5, s6, s7⟩
                    go_simp
                    with_reducible rfl
                  rotate_left
                  · simp only [Act.put, List.setIfInBounds_toArray, List.set_cons_zero, List.set_cons_succ, i64_w, i32_w]
                    rfl
                  refine pure_ (i := 2) (N := some 5) (v := ?_) (a' := ?_) #[true, true, true, false, true, false, false, false, false, false, true, false, false, false, false, false, false, true, false, false, false, false] rfl rfl (any_of HT_.out (by kernel_rfl)) (fun _ _ _ h => h) (Or.inl ⟨by rfl, ?_⟩) ?_ ?_
                  rotate_left
                  · intro w'
                    go_simp
                    with_reducible rfl
                  rotate_left
                  · simp only [Act.put, List.setIfInBounds_toArray, List.set_cons_zero, List.set_cons_succ, i64_w, i32_w]
                    rfl
                  refine pure_ (i := 3) (N := some 6) (v := ?_) (a' := ?_) #[true, true, true, true, true, false, false, false, false, false, true, false, false, false, false, false, false, true, false, false, false, false] rfl rfl (any_of HT_.out (by kernel_rfl)) (fun _ _ _ h => h) (Or.inl ⟨by rfl, ?_⟩) ?_ ?_
                  rotate_left
                  · intro w'
                    go_simp
                    with_reducible rfl
                  rotate_left
                  · simp only [Act.put, List.setIfInBounds_toArray, List.set_cons_zero, List.set_cons_succ, i64_w, i32_w]
                    rfl
                  refine take_ (i := 5) (N := some 8) (v := ?_) (a' := ?_) #[true, true, true, true, true, true, false, false, false, false, true, false, false, false, false, false, false, true, false, false, false, false] rfl rfl (take_ofW HT_.out HW_.out (by kernel_rfl)) (fun _ _ _ h => h) (Or.inl ⟨by rfl, ?_⟩) hHeld ?_ ?_
                  rotate_left
                  · rintro w' ⟨s0, s1, s2, s3, s4, s5, s6, s7⟩
                    go_simp
                    with_reducible rfl
                  rotate_left
                  · simp only [Act.put, List.setIfInBounds_toArray, List.set_cons_zero, List.set_cons_succ, i64_w, i32_w]
                    rfl
                  refine pure_ (i := 6) (N := some 9) (v := ?_) (a' := ?_) #[true, true, true, true, true, true, true, false, false, false, true, false, false, false, false, false, false, true, false, false, false, false] rfl rfl (any_of HT_.out (by kernel_rfl)) (fun _ _ _ h => h) (Or.inl ⟨by rfl, ?_⟩) ?_ ?_
                  rotate_left
                  · intro w'
                    go_simp
                    with_reducible rfl
                  rotate_left
                  · simp only [Act.put, List.setIfInBounds_toArray, List.set_cons_zero, List.set_cons_succ, i64_w, i32_w]
                    rfl
                  refine take_ (i := 11) (N := some 14) (v := ?_) (a' := ?_) #[true, true, true, true, true, true, true, false, false, false, true, true, false, false, false, false, false, true, false, false, false, false] rfl rfl (take_ofW HT_.out HW_.out (by kernel_rfl)) (fun _ _ _ h => h) (Or.inl ⟨by rfl, ?_⟩) hHeld ?_ ?_
                  rotate_left
                  · rintro w' ⟨s0, s1, s2, s3, s4, s5, s6, s7⟩
                    go_simp
                    with_reducible rfl
                  rotate_left
                  · simp only [Act.put, List.setIfInBounds_toArray, List.set_cons_zero, List.set_cons_succ, i64_w, i32_w]
                    rfl
                  refine pure_ (i := 12) (N := some 15) (v := ?_) (a' := ?_) #[true, true, true, true, true, true, true, false, false, false, true, true, true, false, false, false, false, true, false, false, false, false] rfl rfl (any_of HT_.out (by kernel_rfl)) (fun _ _ _ h => h) (Or.inl ⟨by rfl, ?_⟩) ?_ ?_
                  rotate_left
                  · intro w'
                    go_simp
                    with_reducible rfl
                  rotate_left
                  · simp only [Act.put, List.setIfInBounds_toArray, List.set_cons_zero, List.set_cons_succ, i64_w, i32_w]
                    rfl
                  refine pure_ (i := 13) (N := some 16) (v := ?_) (a' := ?_) #[true, true, true, true, true, true, true, false, false, false, true, true, true, true, false, false, false, true, false, false, false, false] rfl rfl (any_of HT_.out (by kernel_rfl)) (fun _ _ _ h => h) (Or.inl ⟨by rfl, ?_⟩) ?_ ?_
                  rotate_left
                  · intro w'
                    go_simp
                    with_reducible rfl
                  rotate_left
                  · simp only [Act.put, List.setIfInBounds_toArray, List.set_cons_zero, List.set_cons_succ, i64_w, i32_w]
                    rfl
                  refine take_ (i := 18) (N := some 21) (v := ?_) (a' := ?_) #[true, true, true, true, true, true, true, false, false, false, true, true, true, true, false, false, false, true, true, false, false, false] rfl rfl (take_ofW HT_.out HW_.out (by kernel_rfl)) (fun _ _ _ h => h) (Or.inl ⟨by rfl, ?_⟩) hHeld ?_ ?_
                  rotate_left
                  · rintro w' ⟨s0, s1, s2, s3, s4, s5, s6, s7⟩
                    go_simp
                    with_reducible rfl
                  rotate_left
                  · simp only [Act.put, List.setIfInBounds_toArray, List.set_cons_zero, List.set_cons_succ, i64_w, i32_w]
                    rfl
                  refine one_ (i := 7) (N := some 10) #[true, true, true, true, true, true, true, true, false, false, true, true, true, true, false, false, false, true, true, false, false, false] rfl rfl (one_of HT_.out (by kernel_rfl)) (by decide) (fun K hK => ?_)
                  refine goes_ Tryd.func25 (by kernel_rfl) rfl #[.int .u64 (IntKind.u64.wrap (a0_5))] (by rfl) rfl rfl (by (try simp only [List.map_toArray, List.map_cons, List.map_nil]); first | done | rfl | (simp only [List.length_drop, List.length_take]; rfl)) ?_
                  with_reducible refine (tattlerref09_Decimal.calls k (IntKind.u64.wrap (a0_5)) t146 _ A4.out).mono ?_
                  rintro e w14 ⟨rfl, hb⟩
                  refine ⟨_, rfl, ?_⟩
                  have n0_ := Aside0.mk (blk_below (g := gb145) (o := .cells #[.string a0_0, .int .u64 a0_1, .int .u32 a0_2, .int .u8 a0_3, .int .u8 a0_4, .int .u32 a0_5, .int .u64 a0_6, .string a0_7] 30 (0, 0)) (by (with_reducible repeat (first | refine blk_drewN ?_ _ | refine blk_drew ?_ | refine blk_alloc ?_ _)); exact BK145.out) hb)
                  have n1_ := Aside0.mk (below_step (by repeat (first | (with_reducible first | exact HB.out | apply below_alloc | apply pw_below_drewN | apply below_drew1 | refine below_set ?_ GE145.out) | exact HB.out)) hb)
                  clear BK145
                  clear HB
                  have BK145 := n0_
                  have HB := n1_
                  clear n0_ n1_
                  (try clear hb)
                  (try clear hb2)
                  (try clear hk)
                  (try clear hi)
                  refine hK.out _ _ ⟨(blk_cell BK145.out 0).trans rfl, (blk_cell BK145.out 1).trans rfl, (blk_cell BK145.out 2).trans rfl, (blk_cell BK145.out 3).trans rfl, (blk_cell BK145.out 4).trans rfl, (blk_cell BK145.out 5).trans rfl, (blk_cell BK145.out 6).trans rfl, (blk_cell BK145.out 7).trans rfl⟩ (fun hHeld => ?_)
                  clear hK K
                  refine norm_ (a' := ?_) ?_ ?_
                  rotate_left
                  · show Act.put _ (some 10) _ = _
                    simp only [Act.put, List.setIfInBounds_toArray, List.set_cons_zero, List.set_cons_succ, i64_w, i32_w]
                    rfl
                  refine pure_ (i := 8) (N := some 11) (v := ?_) (a' := ?_) #[true, true, true, true, true, true, true, true, true, false, true, true, true, true, false, false, false, true, true, false, false, false] rfl rfl (any_of HT_.out (by kernel_rfl)) (fun _ _ _ h => h) (Or.inl ⟨by rfl, ?_⟩) ?_ ?_
                  rotate_left
                  · intro w'
                    go_simp
                    with_reducible rfl
                  rotate_left
                  · simp only [Act.put, List.setIfInBounds_toArray, List.set_cons_zero, List.set_cons_succ, i64_w, i32_w]
                    rfl
                  refine pure_ (i := 9) (N := some 12) (v := ?_) (a' := ?_) #[true, true, true, true, true, true, true, true, true, true, true, true, true, true, false, false, false, true, true, false, false, false] rfl rfl (any_of HT_.out (by kernel_rfl)) (fun _ _ _ h => h) (Or.inl ⟨by rfl, ?_⟩) ?_ ?_
                  rotate_left
                  · intro w'
                    go_simp
                    with_reducible rfl
                  rotate_left
                  · simp only [Act.put, List.setIfInBounds_toArray, List.set_cons_zero, List.set_cons_succ, i64_w, i32_w]
                    rfl
                  refine one_ (i := 14) (N := some 17) #[true, true, true, true, true, true, true, true, true, true, true, true, true, true, true, false, false, true, true, false, false, false] rfl rfl (one_of HT_.out (by kernel_rfl)) (by decide) (fun K hK => ?_)
                  refine goes_ Tryd.func25 (by kernel_rfl) rfl #[.int .u64 (IntKind.u64.wrap ((a0_7.size : Int)))] (by rfl) rfl rfl (by (try simp only [List.map_toArray, List.map_cons, List.map_nil]); first | done | rfl | (simp only [List.length_drop, List.length_take]; rfl)) ?_
                  with_reducible refine (tattlerref09_Decimal.calls k (IntKind.u64.wrap ((a0_7.size : Int))) t147 _ A7.out).mono ?_
                  rintro e w15 ⟨rfl, hb⟩
                  refine ⟨_, rfl, ?_⟩
                  have n0_ := Aside0.mk (blk_below (g := gb145) (o := .cells #[.string a0_0, .int .u64 a0_1, .int .u32 a0_2, .int .u8 a0_3, .int .u8 a0_4, .int .u32 a0_5, .int .u64 a0_6, .string a0_7] 30 (0, 0)) (by (with_reducible repeat (first | refine blk_drewN ?_ _ | refine blk_drew ?_ | refine blk_alloc ?_ _)); exact BK145.out) hb)
                  have n1_ := Aside0.mk (below_step (by repeat (first | (with_reducible first | exact HB.out | apply below_alloc | apply pw_below_drewN | apply below_drew1 | refine below_set ?_ GE145.out) | exact HB.out)) hb)
                  clear BK145
                  clear HB
                  have BK145 := n0_
                  have HB := n1_
                  clear n0_ n1_
                  (try clear hb)
                  (try clear hb2)
                  (try clear hk)
                  (try clear hi)
                  refine hK.out _ _ ⟨(blk_cell BK145.out 0).trans rfl, (blk_cell BK145.out 1).trans rfl, (blk_cell BK145.out 2).trans rfl, (blk_cell BK145.out 3).trans rfl, (blk_cell BK145.out 4).trans rfl, (blk_cell BK145.out 5).trans rfl, (blk_cell BK145.out 6).trans rfl, (blk_cell BK145.out 7).trans rfl⟩ (fun hHeld => ?_)
                  clear hK K
                  refine norm_ (a' := ?_) ?_ ?_
                  rotate_left
                  · show Act.put _ (some 17) _ = _
                    simp only [Act.put, List.setIfInBounds_toArray, List.set_cons_zero, List.set_cons_succ, i64_w, i32_w]
                    rfl
                  refine pure_ (i := 15) (N := some 18) (v := ?_) (a' := ?_) #[true, true, true, true, true, true, true, true, true, true, true, true, true, true, true, true, false, true, true, false, false, false] rfl rfl (any_of HT_.out (by kernel_rfl)) (fun _ _ _ h => h) (Or.inl ⟨by rfl, ?_⟩) ?_ ?_
                  rotate_left
                  · intro w'
                    go_simp
                    with_reducible rfl
                  rotate_left
                  · simp only [Act.put, List.setIfInBounds_toArray, List.set_cons_zero, List.set_cons_succ, i64_w, i32_w]
                    rfl
                  refine pure_ (i := 16) (N := some 19) (v := ?_) (a' := ?_) #[true, true, true, true, true, true, true, true, true, true, true, true, true, true, true, true, true, true, true, false, false, false] rfl rfl (any_of HT_.out (by kernel_rfl)) (fun _ _ _ h => h) (Or.inl ⟨by rfl, ?_⟩) ?_ ?_
                  rotate_left
                  · intro w'
                    go_simp
                    with_reducible rfl
                  rotate_left
                  · simp only [Act.put, List.setIfInBounds_toArray, List.set_cons_zero, List.set_cons_succ, i64_w, i32_w]
                    rfl
                  refine pure_ (i := 19) (N := some 22) (v := ?_) (a' := ?_) #[true, true, true, true, true, true, true, true, true, true, true, true, true, true, true, true, true, true, true, true, false, false] rfl rfl (any_of HT_.out (by kernel_rfl)) (fun _ _ _ h => h) (Or.inl ⟨by rfl, ?_⟩) ?_ ?_
                  rotate_left
                  · intro w'
                    go_simp
                    with_reducible rfl
                  rotate_left
                  · simp only [Act.put, List.setIfInBounds_toArray, List.set_cons_zero, List.set_cons_succ, i64_w, i32_w]
                    rfl
                  refine pure_ (i := 20) (N := some 23) (v := ?_) (a' := ?_) #[true, true, true, true, true, true, true, true, true, true, true, true, true, true, true, true, true, true, true, true, true, false] rfl rfl (any_of HT_.out (by kernel_rfl)) (fun _ _ _ h => h) (Or.inl ⟨by rfl, ?_⟩) ?_ ?_
                  rotate_left
                  · intro w'
                    go_simp
                    with_reducible rfl
                  rotate_left
                  · simp only [Act.put, List.setIfInBounds_toArray, List.set_cons_zero, List.set_cons_succ, i64_w, i32_w]
                    rfl
                  refine pure_ (i := 21) (N := some 2) (v := ?_) (a' := ?_) #[true, true, true, true, true, true, true, true, true, true, true, true, true, true, true, true, true, true, true, true, true, true] rfl rfl (any_of HT_.out (by kernel_rfl)) (fun _ _ _ h => h) (Or.inl ⟨by rfl, ?_⟩) ?_ ?_
                  rotate_left
                  · intro w'
                    go_simp
                    with_reducible rfl
                  rotate_left
                  · simp only [Act.put, List.setIfInBounds_toArray, List.set_cons_zero, List.set_cons_succ, i64_w, i32_w]
                    rfl
                  refine done_ (done_of HT_.out (by kernel_rfl)) ?_
                  try go_wp2
                  go_ret
                  exact ⟨by first | rfl | (simp [errW_none, errW_some] <;> rfl) | (simp [*, errW_none, errW_some] <;> rfl), by repeat (first | (with_reducible first | exact HB.out | apply below_alloc | apply pw_below_drewN | apply below_drew1 | refine below_set ?_ GE145.out) | exact HB.out)⟩
                · rw [if_neg c11] at H
                  exact absurd H (by simp)
              · rw [if_neg c10] at H
                exact absurd H (by simp)
            · rw [if_neg c9] at H
              exact absurd H (by simp)
          · rw [if_neg c8] at H
            exact absurd H (by simp)
        · rw [if_neg c6] at H
          exact absurd H (by simp)
      · rw [if_neg c5] at H
        exact absurd H (by simp)
    · rw [if_neg c3] at H
      exact absurd H (by simp)
  · rw [if_neg c2] at H
    exact absurd H (by simp)

/-! ### tattlerref09_Items: function 12 -/
def tattlerref09_Items.l0 : Nat → List (S30) → ByteArray → Int → Int → Option (ByteArray)
  | 0, _, _, _, _ => none
  | k + 1, x0, x3, x6, x7 => if x7 < x6 then (if 0 ≤ x7 then (if x7 < (x0.length : Int) then ((tattlerref09_Item.f k ((rd_T30 x0 x7).f0) ((rd_T30 x0 x7).f1.f0) ((rd_T30 x0 x7).f1.f1) ((rd_T30 x0 x7).f1.f2) ((rd_T30 x0 x7).f2) ((rd_T30 x0 x7).f3) ((rd_T30 x0 x7).f4) ((rd_T30 x0 x7).f5)).bind fun t149 => (if x3.size + t149.size ≤ 9223372036854775807 then (tattlerref09_Items.l0 k x0 (x3 ++ t149) x6 (wrap64 (x7 + 1))) else (none))) else (none)) else (none)) else (if x3.size + 5 ≤ 9223372036854775807 then (some (x3 ++ (⟨#[69, 78, 68, 13, 10]⟩ : ByteArray))) else (none))
def tattlerref09_Items.f (k : Nat) (l0 : List (S30)) : Option (ByteArray) := tattlerref09_Items.l0 k l0 (⟨#[]⟩ : ByteArray) (l0.length : Int) 0
theorem tattlerref09_Items.mono_l : ∀ k, (∀ y0 y1 y2 y3, LeO (tattlerref09_Items.l0 k y0 y1 y2 y3) (tattlerref09_Items.l0 (k + 1) y0 y1 y2 y3))
  | 0 => fun _ _ _ _ r h => by simp [tattlerref09_Items.l0] at h
  | k + 1 => by
    have ih0 := tattlerref09_Items.mono_l k
    · intro y0 y1 y2 y3
      unfold tattlerref09_Items.l0
      repeat' first
      | (with_reducible exact ih0 _ _ _ _)
      | (with_reducible exact tattlerref09_Item.mono _ _ _ _ _ _ _ _ _)
      | (with_reducible exact LeO.refl _)
      | (with_reducible exact LeO.none _)
      | (with_reducible refine LeO.ite ?_ ?_)
      | (with_reducible refine LeO.bind ?_ (fun _ => ?_))
      | exact ih0 _ _ _ _
      | exact tattlerref09_Item.mono _ _ _ _ _ _ _ _ _
      | exact LeO.none _
      | refine LeO.ite ?_ ?_
      | refine LeO.bind ?_ (fun _ => ?_)
theorem tattlerref09_Items.mono : ∀ a0 k, LeO (tattlerref09_Items.f k a0) (tattlerref09_Items.f (k + 1) a0) := by
  intro a0 k
  have ih0 := tattlerref09_Items.mono_l k
  unfold tattlerref09_Items.f
  repeat' first
      | (with_reducible exact ih0 _ _ _ _)
      | (with_reducible exact tattlerref09_Item.mono _ _ _ _ _ _ _ _ _)
      | (with_reducible exact LeO.refl _)
      | (with_reducible exact LeO.none _)
      | (with_reducible refine LeO.ite ?_ ?_)
      | (with_reducible refine LeO.bind ?_ (fun _ => ?_))
      | exact ih0 _ _ _ _
      | exact tattlerref09_Item.mono _ _ _ _ _ _ _ _ _
      | exact LeO.none _
      | refine LeO.ite ?_ ?_
      | refine LeO.bind ?_ (fun _ => ?_)
set_option maxHeartbeats 8000000 in
set_option maxRecDepth 100000 in
theorem tattlerref09_Items.calls (k : Nat) (A0 : Option Addr) (c0 : Nat) (l0 : List (S30)) (r : ByteArray) (w : World) (hr0 : Kd.C k30 w A0 l0.length l0) (hc0 : l0.length ≤ c0) (h : tattlerref09_Items.f k l0 = some r) :
    Calls Tryd.prog 12 #[.slice A0 l0.length c0] w fun e w' => e = .returned (.string r) ∧ Below w.heap.size w w' := by
  have hu30 := Tryd.underlying30
  have HR0 := Aside0.mk hr0
  have HC0 := Aside0.mk hc0
  clear hr0 hc0
  have HB := Aside0.mk (Below.refl w.heap.size w)
  have H : (tattlerref09_Items.l0 k l0 (⟨#[]⟩ : ByteArray) (l0.length : Int) 0) = some r := h
  clear h
  have H' := Aside0.mk H
  clear H
  go_enter Tryd.func12, Tryd.ntmps12
  go_wp2
  go_loopg [3, 7] k (fun kq v3 v7 w' => ∃ (x3_1 : ByteArray) (x7_1 : Int), v3 = .string x3_1 ∧ v7 = .int .i64 x7_1 ∧ Aside0 (tattlerref09_Items.l0 kq l0 x3_1 (l0.length : Int) x7_1 = some r) ∧ Aside0 (kq ≤ k) ∧ Aside0 (Below w.heap.size w w'))
  case atStart => exact ⟨((⟨#[]⟩ : ByteArray)), (0), (by first | rfl | (simp; done) | (simp [*]; done)), (by first | rfl | (simp; done) | (simp [*]; done)), H', ⟨Nat.le_refl _⟩, ⟨by repeat (first | (with_reducible first | exact HB.out | apply below_alloc | apply pw_below_drewN | apply below_drew1) | exact HB.out)⟩⟩
  case round =>
    clear H'
    try clear c1
    obtain ⟨x3_1, x7_1, rfl, rfl, HA, HK1, HB⟩ := hrel
    cases gk with
    | zero => exact absurd HA.out (by simp [tattlerref09_Items.l0])
    | succ k1 =>
      have H := HA.out
      clear HA
      simp only [tattlerref09_Items.l0] at H
      by_cases c2 : x7_1 < (l0.length : Int)
      · rw [if_pos c2] at H
        have c2b0 : decide (x7_1 < (l0.length : Int)) = true := decide_eq_true c2
        clear c2
        by_cases c3 : 0 ≤ x7_1
        · rw [if_pos c3] at H
          have c3b0 : decide (0 ≤ x7_1) = true := decide_eq_true c3
          clear c3
          by_cases c4 : x7_1 < (l0.length : Int)
          · rw [if_pos c4] at H
            have c4b0 : decide (x7_1 < (l0.length : Int)) = true := decide_eq_true c4
            clear c4
            replace H := Option.bind_eq_some_iff.mp H
            obtain ⟨t149, A50, H⟩ := H
            replace H : (if x3_1.size + t149.size ≤ 9223372036854775807 then (tattlerref09_Items.l0 k1 l0 (x3_1 ++ t149) (l0.length : Int) (wrap64 (x7_1 + 1))) else (none)) = some r := H
            have A5 := Aside0.mk A50
            clear A50
            by_cases c6 : x3_1.size + t149.size ≤ 9223372036854775807
            · rw [if_pos c6] at H
              have c6b0 := eq_true c6
              have c6b1 : decide (x3_1.size + t149.size ≤ 9223372036854775807) = true := decide_eq_true c6
              try have c6b2 : (9223372036854775807 < x3_1.size + t149.size) = False := eq_false (Nat.not_lt.2 c6)
              have H' := Aside0.mk H
              clear H
              have p148 : 0 ≤ (x7_1 : Int) := of_decide_eq_true (by first | (with_reducible assumption) | assumption)
              have q148 : x7_1 < (l0.length : Int) := of_decide_eq_true (by first | (with_reducible assumption) | assumption)
              obtain ⟨ad148, e148, hx148_0, hx148_1, hx148_2, hx148_3, hx148_4, hx148_5, hx148_6, hx148_7⟩ := at_T30 HR0.out x7_1 p148 q148
              cases e148
              replace hx148_0 := (HB.out.cell (World.block_lt_of_cell? w _ hx148_0)).trans hx148_0
              replace hx148_1 := (HB.out.cell (World.block_lt_of_cell? w _ hx148_1)).trans hx148_1
              replace hx148_2 := (HB.out.cell (World.block_lt_of_cell? w _ hx148_2)).trans hx148_2
              replace hx148_3 := (HB.out.cell (World.block_lt_of_cell? w _ hx148_3)).trans hx148_3
              replace hx148_4 := (HB.out.cell (World.block_lt_of_cell? w _ hx148_4)).trans hx148_4
              replace hx148_5 := (HB.out.cell (World.block_lt_of_cell? w _ hx148_5)).trans hx148_5
              replace hx148_6 := (HB.out.cell (World.block_lt_of_cell? w _ hx148_6)).trans hx148_6
              replace hx148_7 := (HB.out.cell (World.block_lt_of_cell? w _ hx148_7)).trans hx148_7
              replace p148 := eq_true p148
              replace q148 := eq_true q148
              go_wp2_with (first | ((with_reducible refine gate_callee (f := 24) rfl ?_); refine goesL_ (some 15) rfl rfl Tryd.func24 (by kernel_rfl) rfl #[.agg #[.string ((rd_T30 l0 x7_1).f0), .int .u64 ((rd_T30 l0 x7_1).f1.f0), .int .u32 ((rd_T30 l0 x7_1).f1.f1), .int .u8 ((rd_T30 l0 x7_1).f1.f2), .int .u8 ((rd_T30 l0 x7_1).f2), .int .u32 ((rd_T30 l0 x7_1).f3), .int .u64 ((rd_T30 l0 x7_1).f4), .string ((rd_T30 l0 x7_1).f5)]] rfl (by (try simp only [List.map_toArray, List.map_cons, List.map_nil]); first | done | rfl | (simp only [List.length_drop, List.length_take]; rfl)) ?_; (with_reducible refine (tattlerref09_Item.calls k1 ((rd_T30 l0 x7_1).f0) ((rd_T30 l0 x7_1).f1.f0) ((rd_T30 l0 x7_1).f1.f1) ((rd_T30 l0 x7_1).f1.f2) ((rd_T30 l0 x7_1).f2) ((rd_T30 l0 x7_1).f3) ((rd_T30 l0 x7_1).f4) ((rd_T30 l0 x7_1).f5) t149 _ A5.out).mono ?_); rintro e w7 ⟨rfl, hb⟩; refine ⟨_, rfl, ?_⟩; have n0_ := Aside0.mk (below_step (by repeat (first | (with_reducible first | exact HB.out | apply below_alloc | apply pw_below_drewN | apply below_drew1) | exact HB.out)) hb); clear HB; have HB := n0_; clear n0_; (try clear hb); (try clear hb2); (try clear hk); (try clear hi)))
              go_roundg k1
              case measure => have := HK1.out; omega
              case rel => exact ⟨(x3_1 ++ t149), (wrap64 (x7_1 + 1)), (by first | rfl | (simp; done) | (simp [*]; done)), (by first | rfl | (simp; done) | (simp [*]; done)), H', ⟨by have := HK1.out; omega⟩, ⟨by repeat (first | (with_reducible first | exact HB.out | apply below_alloc | apply pw_below_drewN | apply below_drew1) | exact HB.out)⟩⟩
            · rw [if_neg c6] at H
              exact absurd H (by simp)
          · rw [if_neg c4] at H
            exact absurd H (by simp)
        · rw [if_neg c3] at H
          exact absurd H (by simp)
      · rw [if_neg c2] at H
        have c2b0 : decide (x7_1 < (l0.length : Int)) = false := decide_eq_false c2
        clear c2
        by_cases c8 : x3_1.size + 5 ≤ 9223372036854775807
        · rw [if_pos c8] at H
          have c8b0 := eq_true c8
          have c8b1 : decide (x3_1.size + 5 ≤ 9223372036854775807) = true := decide_eq_true c8
          try have c8b2 : (9223372036854775807 < x3_1.size + 5) = False := eq_false (Nat.not_lt.2 c8)
          obtain rfl := Option.some.inj H
          go_wp2
          go_ret
          exact ⟨by first | rfl | (simp [errW_none, errW_some] <;> rfl) | (simp [*, errW_none, errW_some] <;> rfl), by repeat (first | (with_reducible first | exact HB.out | apply below_alloc | apply pw_below_drewN | apply below_drew1) | exact HB.out)⟩
        · rw [if_neg c8] at H
          exact absurd H (by simp)

/-! ### say_Stats: function 13 -/
-- NEEDS YtbgoedhpndflpaaDoorSayItems
def say_Stats.f (l0 : List S42) : Option ByteArray := if Say.okS l0 = true then some (Say.statsB l0) else none
theorem say_Stats.calls (A0 : Option Addr) (c0 : Nat) (l0 : List (S42)) (r : ByteArray) (w : World) (hr0 : Kd.C k42 w A0 l0.length l0) (hc0 : l0.length ≤ c0) (h : say_Stats.f l0 = some r) (hT : Say.Tab w) :
    Calls Tryd.prog 13 #[.slice A0 l0.length c0] w fun e w' => e = .returned (.string r) ∧ Below w.heap.size w w' := by
  unfold say_Stats.f at h
  split at h
  · rename_i ho
    obtain ⟨h1, h2⟩ := (Say.okS_iff l0).1 ho
    have h3 := Option.some.inj h
    subst h3
    exact Say.stats_c A0 c0 l0 w hr0 hc0 hT h1 h2
  · cases h

/-! ### tattlerref09_Stats: function 14 -/
def tattlerref09_Stats.l0 : Nat → List (S42) → ByteArray → Int → Int → Option (ByteArray)
  | 0, _, _, _, _ => none
  | k + 1, x0, x3, x6, x7 => if x7 < x6 then (if 0 ≤ x7 then (if x7 < (x0.length : Int) then (if 5 + ((rd_T42 x0 x7).f0).size ≤ 9223372036854775807 then (if ((⟨#[83, 84, 65, 84, 32]⟩ : ByteArray) ++ ((rd_T42 x0 x7).f0)).size + 1 ≤ 9223372036854775807 then ((tattlerref09_Decimal.f k ((rd_T42 x0 x7).f1)).bind fun t152 => (if (((⟨#[83, 84, 65, 84, 32]⟩ : ByteArray) ++ ((rd_T42 x0 x7).f0)) ++ (⟨#[32]⟩ : ByteArray)).size + t152.size ≤ 9223372036854775807 then (if ((((⟨#[83, 84, 65, 84, 32]⟩ : ByteArray) ++ ((rd_T42 x0 x7).f0)) ++ (⟨#[32]⟩ : ByteArray)) ++ t152).size + 2 ≤ 9223372036854775807 then (if x3.size + (((((⟨#[83, 84, 65, 84, 32]⟩ : ByteArray) ++ ((rd_T42 x0 x7).f0)) ++ (⟨#[32]⟩ : ByteArray)) ++ t152) ++ (⟨#[13, 10]⟩ : ByteArray)).size ≤ 9223372036854775807 then (tattlerref09_Stats.l0 k x0 (x3 ++ (((((⟨#[83, 84, 65, 84, 32]⟩ : ByteArray) ++ ((rd_T42 x0 x7).f0)) ++ (⟨#[32]⟩ : ByteArray)) ++ t152) ++ (⟨#[13, 10]⟩ : ByteArray))) x6 (wrap64 (x7 + 1))) else (none)) else (none)) else (none))) else (none)) else (none)) else (none)) else (none)) else (if x3.size + 5 ≤ 9223372036854775807 then (some (x3 ++ (⟨#[69, 78, 68, 13, 10]⟩ : ByteArray))) else (none))
def tattlerref09_Stats.f (k : Nat) (l0 : List (S42)) : Option (ByteArray) := tattlerref09_Stats.l0 k l0 (⟨#[]⟩ : ByteArray) (l0.length : Int) 0
theorem tattlerref09_Stats.mono_l : ∀ k, (∀ y0 y1 y2 y3, LeO (tattlerref09_Stats.l0 k y0 y1 y2 y3) (tattlerref09_Stats.l0 (k + 1) y0 y1 y2 y3))
  | 0 => fun _ _ _ _ r h => by simp [tattlerref09_Stats.l0] at h
  | k + 1 => by
    have ih0 := tattlerref09_Stats.mono_l k
    · intro y0 y1 y2 y3
      unfold tattlerref09_Stats.l0
      repeat' first
      | (with_reducible exact ih0 _ _ _ _)
      | (with_reducible exact tattlerref09_Decimal.mono _ _)
      | (with_reducible exact LeO.refl _)
      | (with_reducible exact LeO.none _)
      | (with_reducible refine LeO.ite ?_ ?_)
      | (with_reducible refine LeO.bind ?_ (fun _ => ?_))
      | exact ih0 _ _ _ _
      | exact tattlerref09_Decimal.mono _ _
      | exact LeO.none _
      | refine LeO.ite ?_ ?_
      | refine LeO.bind ?_ (fun _ => ?_)
theorem tattlerref09_Stats.mono : ∀ a0 k, LeO (tattlerref09_Stats.f k a0) (tattlerref09_Stats.f (k + 1) a0) := by
  intro a0 k
  have ih0 := tattlerref09_Stats.mono_l k
  unfold tattlerref09_Stats.f
  repeat' first
      | (with_reducible exact ih0 _ _ _ _)
      | (with_reducible exact tattlerref09_Decimal.mono _ _)
      | (with_reducible exact LeO.refl _)
      | (with_reducible exact LeO.none _)
      | (with_reducible refine LeO.ite ?_ ?_)
      | (with_reducible refine LeO.bind ?_ (fun _ => ?_))
      | exact ih0 _ _ _ _
      | exact tattlerref09_Decimal.mono _ _
      | exact LeO.none _
      | refine LeO.ite ?_ ?_
      | refine LeO.bind ?_ (fun _ => ?_)
def tattlerref09_Stats.T5 : Bool × List (List Nat × List Nat) := (true, [([], []), ([], []), ([], []), ([1, 2], [1, 2]), ([3], [3]), ([4], [4]), ([5], [5]), ([6], [6]), ([], []), ([], []), ([8, 9], [8, 9]), ([10], [10]), ([11], [11]), ([12], [12]), ([7, 13], [7, 13]), ([14], [14]), ([0, 15], [0, 15]), ([16, 13, 0, 1, 2, 3, 4, 5, 6, 7, 8, 9, 10, 11, 12, 13, 14, 15, 16], [0, 16])])
def tattlerref09_Stats.B5 : List Nat := [0, 0, 0, 6, 14, 30, 62, 126, 0, 0, 768, 1792, 3840, 7936, 16382, 32766, 65535, 131071]
theorem tattlerref09_Stats.tab5 : rtab .any (opsOf Tryd.f14 5) = tattlerref09_Stats.T5 := by kernel_rfl
theorem tattlerref09_Stats.bits5 : waitsOk tattlerref09_Stats.T5.2 tattlerref09_Stats.B5 = true := by kernel_rfl
set_option maxHeartbeats 8000000 in
set_option maxRecDepth 100000 in
theorem tattlerref09_Stats.calls (k : Nat) (A0 : Option Addr) (c0 : Nat) (l0 : List (S42)) (r : ByteArray) (w : World) (hr0 : Kd.C k42 w A0 l0.length l0) (hc0 : l0.length ≤ c0) (h : tattlerref09_Stats.f k l0 = some r) :
    Calls Tryd.prog 14 #[.slice A0 l0.length c0] w fun e w' => e = .returned (.string r) ∧ Below w.heap.size w w' := by
  have HR0 := Aside0.mk hr0
  have HC0 := Aside0.mk hc0
  clear hr0 hc0
  have HB := Aside0.mk (Below.refl w.heap.size w)
  have H : (tattlerref09_Stats.l0 k l0 (⟨#[]⟩ : ByteArray) (l0.length : Int) 0) = some r := h
  clear h
  have H' := Aside0.mk H
  clear H
  go_enter Tryd.func14, Tryd.ntmps14
  go_wp2
  go_loopg [3, 7] k (fun kq v3 v7 w' => ∃ (x3_1 : ByteArray) (x7_1 : Int), v3 = .string x3_1 ∧ v7 = .int .i64 x7_1 ∧ Aside0 (tattlerref09_Stats.l0 kq l0 x3_1 (l0.length : Int) x7_1 = some r) ∧ Aside0 (kq ≤ k) ∧ Aside0 (Below w.heap.size w w'))
  case atStart => exact ⟨((⟨#[]⟩ : ByteArray)), (0), (by first | rfl | (simp; done) | (simp [*]; done)), (by first | rfl | (simp; done) | (simp [*]; done)), H', ⟨Nat.le_refl _⟩, ⟨by repeat (first | (with_reducible first | exact HB.out | apply below_alloc | apply pw_below_drewN | apply below_drew1) | exact HB.out)⟩⟩
  case round =>
    clear H'
    try clear c1
    obtain ⟨x3_1, x7_1, rfl, rfl, HA, HK1, HB⟩ := hrel
    cases gk with
    | zero => exact absurd HA.out (by simp [tattlerref09_Stats.l0])
    | succ k1 =>
      have H := HA.out
      clear HA
      simp only [tattlerref09_Stats.l0] at H
      by_cases c2 : x7_1 < (l0.length : Int)
      · rw [if_pos c2] at H
        have c2b0 : decide (x7_1 < (l0.length : Int)) = true := decide_eq_true c2
        clear c2
        by_cases c3 : 0 ≤ x7_1
        · rw [if_pos c3] at H
          have c3b0 : decide (0 ≤ x7_1) = true := decide_eq_true c3
          clear c3
          by_cases c4 : x7_1 < (l0.length : Int)
          · rw [if_pos c4] at H
            have c4b0 : decide (x7_1 < (l0.length : Int)) = true := decide_eq_true c4
            clear c4
            by_cases c5 : 5 + ((rd_T42 l0 x7_1).f0).size ≤ 9223372036854775807
            · rw [if_pos c5] at H
              have c5b0 := eq_true c5
              have c5b1 : decide (5 + ((rd_T42 l0 x7_1).f0).size ≤ 9223372036854775807) = true := decide_eq_true c5
              try have c5b2 : (9223372036854775807 < 5 + ((rd_T42 l0 x7_1).f0).size) = False := eq_false (Nat.not_lt.2 c5)
              by_cases c6 : ((⟨#[83, 84, 65, 84, 32]⟩ : ByteArray) ++ ((rd_T42 l0 x7_1).f0)).size + 1 ≤ 9223372036854775807
              · rw [if_pos c6] at H
                have c6b0 := eq_true c6
                have c6b1 : decide (((⟨#[83, 84, 65, 84, 32]⟩ : ByteArray) ++ ((rd_T42 l0 x7_1).f0)).size + 1 ≤ 9223372036854775807) = true := decide_eq_true c6
                try have c6b2 : (9223372036854775807 < ((⟨#[83, 84, 65, 84, 32]⟩ : ByteArray) ++ ((rd_T42 l0 x7_1).f0)).size + 1) = False := eq_false (Nat.not_lt.2 c6)
                have c6b3 : (9223372036854775807 < 5 + ((rd_T42 l0 x7_1).f0).size + 1) = False := eq_false (by have h_ := c6; simp only [ByteArray.size_append, show (⟨#[86, 65, 76, 85, 69, 32]⟩ : ByteArray).size = 6 from rfl, show (⟨#[32]⟩ : ByteArray).size = 1 from rfl, show (⟨#[13, 10]⟩ : ByteArray).size = 2 from rfl, show (⟨#[83, 84, 65, 84, 32]⟩ : ByteArray).size = 5 from rfl, show (⟨#[69, 78, 68, 13, 10]⟩ : ByteArray).size = 5 from rfl] at h_; omega)
                replace H := Option.bind_eq_some_iff.mp H
                obtain ⟨t152, A70, H⟩ := H
                replace H : (if (((⟨#[83, 84, 65, 84, 32]⟩ : ByteArray) ++ ((rd_T42 l0 x7_1).f0)) ++ (⟨#[32]⟩ : ByteArray)).size + t152.size ≤ 9223372036854775807 then (if ((((⟨#[83, 84, 65, 84, 32]⟩ : ByteArray) ++ ((rd_T42 l0 x7_1).f0)) ++ (⟨#[32]⟩ : ByteArray)) ++ t152).size + 2 ≤ 9223372036854775807 then (if x3_1.size + (((((⟨#[83, 84, 65, 84, 32]⟩ : ByteArray) ++ ((rd_T42 l0 x7_1).f0)) ++ (⟨#[32]⟩ : ByteArray)) ++ t152) ++ (⟨#[13, 10]⟩ : ByteArray)).size ≤ 9223372036854775807 then (tattlerref09_Stats.l0 k1 l0 (x3_1 ++ (((((⟨#[83, 84, 65, 84, 32]⟩ : ByteArray) ++ ((rd_T42 l0 x7_1).f0)) ++ (⟨#[32]⟩ : ByteArray)) ++ t152) ++ (⟨#[13, 10]⟩ : ByteArray))) (l0.length : Int) (wrap64 (x7_1 + 1))) else (none)) else (none)) else (none)) = some r := H
                have A7 := Aside0.mk A70
                clear A70
                by_cases c8 : (((⟨#[83, 84, 65, 84, 32]⟩ : ByteArray) ++ ((rd_T42 l0 x7_1).f0)) ++ (⟨#[32]⟩ : ByteArray)).size + t152.size ≤ 9223372036854775807
                · rw [if_pos c8] at H
                  have c8b0 := eq_true c8
                  have c8b1 : decide ((((⟨#[83, 84, 65, 84, 32]⟩ : ByteArray) ++ ((rd_T42 l0 x7_1).f0)) ++ (⟨#[32]⟩ : ByteArray)).size + t152.size ≤ 9223372036854775807) = true := decide_eq_true c8
                  try have c8b2 : (9223372036854775807 < (((⟨#[83, 84, 65, 84, 32]⟩ : ByteArray) ++ ((rd_T42 l0 x7_1).f0)) ++ (⟨#[32]⟩ : ByteArray)).size + t152.size) = False := eq_false (Nat.not_lt.2 c8)
                  have c8b3 : (9223372036854775807 < 5 + ((rd_T42 l0 x7_1).f0).size + 1 + t152.size) = False := eq_false (by have h_ := c8; simp only [ByteArray.size_append, show (⟨#[86, 65, 76, 85, 69, 32]⟩ : ByteArray).size = 6 from rfl, show (⟨#[32]⟩ : ByteArray).size = 1 from rfl, show (⟨#[13, 10]⟩ : ByteArray).size = 2 from rfl, show (⟨#[83, 84, 65, 84, 32]⟩ : ByteArray).size = 5 from rfl, show (⟨#[69, 78, 68, 13, 10]⟩ : ByteArray).size = 5 from rfl] at h_; omega)
                  by_cases c9 : ((((⟨#[83, 84, 65, 84, 32]⟩ : ByteArray) ++ ((rd_T42 l0 x7_1).f0)) ++ (⟨#[32]⟩ : ByteArray)) ++ t152).size + 2 ≤ 9223372036854775807
                  · rw [if_pos c9] at H
                    have c9b0 := eq_true c9
                    have c9b1 : decide (((((⟨#[83, 84, 65, 84, 32]⟩ : ByteArray) ++ ((rd_T42 l0 x7_1).f0)) ++ (⟨#[32]⟩ : ByteArray)) ++ t152).size + 2 ≤ 9223372036854775807) = true := decide_eq_true c9
                    try have c9b2 : (9223372036854775807 < ((((⟨#[83, 84, 65, 84, 32]⟩ : ByteArray) ++ ((rd_T42 l0 x7_1).f0)) ++ (⟨#[32]⟩ : ByteArray)) ++ t152).size + 2) = False := eq_false (Nat.not_lt.2 c9)
                    have c9b3 : (9223372036854775807 < 5 + ((rd_T42 l0 x7_1).f0).size + 1 + t152.size + 2) = False := eq_false (by have h_ := c9; simp only [ByteArray.size_append, show (⟨#[86, 65, 76, 85, 69, 32]⟩ : ByteArray).size = 6 from rfl, show (⟨#[32]⟩ : ByteArray).size = 1 from rfl, show (⟨#[13, 10]⟩ : ByteArray).size = 2 from rfl, show (⟨#[83, 84, 65, 84, 32]⟩ : ByteArray).size = 5 from rfl, show (⟨#[69, 78, 68, 13, 10]⟩ : ByteArray).size = 5 from rfl] at h_; omega)
                    by_cases c10 : x3_1.size + (((((⟨#[83, 84, 65, 84, 32]⟩ : ByteArray) ++ ((rd_T42 l0 x7_1).f0)) ++ (⟨#[32]⟩ : ByteArray)) ++ t152) ++ (⟨#[13, 10]⟩ : ByteArray)).size ≤ 9223372036854775807
                    · rw [if_pos c10] at H
                      have c10b0 := eq_true c10
                      have c10b1 : decide (x3_1.size + (((((⟨#[83, 84, 65, 84, 32]⟩ : ByteArray) ++ ((rd_T42 l0 x7_1).f0)) ++ (⟨#[32]⟩ : ByteArray)) ++ t152) ++ (⟨#[13, 10]⟩ : ByteArray)).size ≤ 9223372036854775807) = true := decide_eq_true c10
                      try have c10b2 : (9223372036854775807 < x3_1.size + (((((⟨#[83, 84, 65, 84, 32]⟩ : ByteArray) ++ ((rd_T42 l0 x7_1).f0)) ++ (⟨#[32]⟩ : ByteArray)) ++ t152) ++ (⟨#[13, 10]⟩ : ByteArray)).size) = False := eq_false (Nat.not_lt.2 c10)
                      have c10b3 : (9223372036854775807 < x3_1.size + (5 + ((rd_T42 l0 x7_1).f0).size + 1 + t152.size + 2)) = False := eq_false (by have h_ := c10; simp only [ByteArray.size_append, show (⟨#[86, 65, 76, 85, 69, 32]⟩ : ByteArray).size = 6 from rfl, show (⟨#[32]⟩ : ByteArray).size = 1 from rfl, show (⟨#[13, 10]⟩ : ByteArray).size = 2 from rfl, show (⟨#[83, 84, 65, 84, 32]⟩ : ByteArray).size = 5 from rfl, show (⟨#[69, 78, 68, 13, 10]⟩ : ByteArray).size = 5 from rfl] at h_; omega)
                      have H' := Aside0.mk H
                      clear H
                      try go_wp2
                      have n0_ := Aside0.mk (below_drew1 HB.out)
                      clear HB
                      have HB := n0_
                      clear n0_
                      have p150 : 0 ≤ (x7_1 : Int) := of_decide_eq_true (by first | (with_reducible assumption) | assumption)
                      have q150 : x7_1 < (l0.length : Int) := of_decide_eq_true (by first | (with_reducible assumption) | assumption)
                      obtain ⟨ad150, e150, hx150_0, hx150_1⟩ := at_T42 HR0.out x7_1 p150 q150
                      have hw150_1 := hx150_1
                      have hw150_0 := hx150_0
                      cases e150
                      replace hx150_0 := (HB.out.cell (World.block_lt_of_cell? w _ hx150_0)).trans hx150_0
                      replace hx150_1 := (HB.out.cell (World.block_lt_of_cell? w _ hx150_1)).trans hx150_1
                      replace p150 := eq_true p150
                      replace q150 := eq_true q150
                      have p151 : 0 ≤ (x7_1 : Int) := of_decide_eq_true (by first | (with_reducible assumption) | assumption)
                      have q151 : x7_1 < (l0.length : Int) := of_decide_eq_true (by first | (with_reducible assumption) | assumption)
                      obtain ⟨ad151, e151, hx151_0, hx151_1⟩ := at_T42 HR0.out x7_1 p151 q151
                      have hw151_1 := hx151_1
                      have hw151_0 := hx151_0
                      obtain rfl : ad150 = ad151 := (by injection e151)
                      replace hx151_0 := (HB.out.cell (World.block_lt_of_cell? w _ hx151_0)).trans hx151_0
                      replace hx151_1 := (HB.out.cell (World.block_lt_of_cell? w _ hx151_1)).trans hx151_1
                      replace p151 := eq_true p151
                      replace q151 := eq_true q151
                      refine start_ (n := 18) (S := fun w' => w'.cell? (ad150.add ((x7_1).toNat * 2)) = some (.string ((rd_T42 l0 x7_1).f0)) ∧ w'.cell? ⟨(ad150.add ((x7_1).toNat * 2)).block, (ad150.add ((x7_1).toNat * 2)).off + 1, none⟩ = some (.int .u64 ((rd_T42 l0 x7_1).f1)) ∧ w'.cell? (ad150.add ((x7_1).toNat * 2)) = some (.string ((rd_T42 l0 x7_1).f0)) ∧ w'.cell? ⟨(ad150.add ((x7_1).toNat * 2)).block, (ad150.add ((x7_1).toNat * 2)).off + 1, none⟩ = some (.int .u64 ((rd_T42 l0 x7_1).f1))) (ds := []) #[false, false, false, false, false, false, false, false, false, false, false, false, false, false, false, false, false, false] (by kernel_rfl) rfl rfl ⟨((HB.out.cell (World.block_lt_of_cell? w _ hw150_0)).trans hw150_0), ((HB.out.cell (World.block_lt_of_cell? w _ hw150_1)).trans hw150_1), ((HB.out.cell (World.block_lt_of_cell? w _ hw151_0)).trans hw151_0), ((HB.out.cell (World.block_lt_of_cell? w _ hw151_1)).trans hw151_1)⟩ (fun hHeld => ?_); refine with_tabW tattlerref09_Stats.tab5 tattlerref09_Stats.bits5 (fun HT_ HW_ => ?_)
                      generalize wr.drew = w11 at HB hx150_0 hx150_1 hx151_0 hx151_1 hHeld ⊢
                      refine pure_ (i := 0) (N := some 10) (v := ?_) (a' := ?_) #[true, false, false, false, false, false, false, false, false, false, false, false, false, false, false, false, false, false] rfl rfl (any_of HT_.out (by kernel_rfl)) (fun _ _ _ h => h) (Or.inl ⟨by rfl, ?_⟩) ?_ ?_
                      rotate_left
                      · intro w'
                        go_simp
                        with_reducible rfl
                      rotate_left
                      · simp only [Act.put, List.setIfInBounds_toArray, List.set_cons_zero, List.set_cons_succ, i64_w, i32_w]
                        rfl
                      refine pure_ (i := 1) (N := some 11) (v := ?_) (a' := ?_) #[true, true, false, false, false, false, false, false, false, false, false, false, false, false, false, false, false, false] rfl rfl (any_of HT_.out (by kernel_rfl)) (fun _ _ _ h => h) (Or.inl ⟨by rfl, ?_⟩) ?_ ?_
                      rotate_left
                      · intro w'
                        go_simp
                        with_reducible rfl
                      rotate_left
                      · simp only [Act.put, List.setIfInBounds_toArray, List.set_cons_zero, List.set_cons_succ, i64_w, i32_w]
                        rfl
                      refine pure_ (i := 2) (N := some 12) (v := ?_) (a' := ?_) #[true, true, true, false, false, false, false, false, false, false, false, false, false, false, false, false, false, false] rfl rfl (any_of HT_.out (by kernel_rfl)) (fun _ _ _ h => h) (Or.inl ⟨by rfl, ?_⟩) ?_ ?_
                      rotate_left
                      · intro w'
                        go_simp
                        with_reducible rfl
                      rotate_left
                      · simp only [Act.put, List.setIfInBounds_toArray, List.set_cons_zero, List.set_cons_succ, i64_w, i32_w]
                        rfl
                      refine pure_ (i := 3) (N := some 13) (v := ?_) (a' := ?_) #[true, true, true, true, false, false, false, false, false, false, false, false, false, false, false, false, false, false] rfl rfl (any_of HT_.out (by kernel_rfl)) (fun _ _ _ h => h) (Or.inl ⟨by rfl, ?_⟩) ?_ ?_
                      rotate_left
                      · intro w'
                        go_simp
                        with_reducible rfl
                      rotate_left
                      · simp only [Act.put, List.setIfInBounds_toArray, List.set_cons_zero, List.set_cons_succ, i64_w, i32_w]
                        rfl
                      refine pure_ (i := 4) (N := some 14) (v := ?_) (a' := ?_) #[true, true, true, true, true, false, false, false, false, false, false, false, false, false, false, false, false, false] rfl rfl (any_of HT_.out (by kernel_rfl)) (fun _ _ _ h => h) (Or.inl ⟨by rfl, ?_⟩) ?_ ?_
                      rotate_left
                      · intro w'
                        go_simp
                        with_reducible rfl
                      rotate_left
                      · simp only [Act.put, List.setIfInBounds_toArray, List.set_cons_zero, List.set_cons_succ, i64_w, i32_w]
                        rfl
                      refine pure_ (i := 8) (N := some 18) (v := ?_) (a' := ?_) #[true, true, true, true, true, false, false, false, true, false, false, false, false, false, false, false, false, false] rfl rfl (any_of HT_.out (by kernel_rfl)) (fun _ _ _ h => h) (Or.inl ⟨by rfl, ?_⟩) ?_ ?_
                      rotate_left
                      · intro w'
                        go_simp
                        with_reducible rfl
                      rotate_left
                      · simp only [Act.put, List.setIfInBounds_toArray, List.set_cons_zero, List.set_cons_succ, i64_w, i32_w]
                        rfl
                      refine pure_ (i := 9) (N := some 19) (v := ?_) (a' := ?_) #[true, true, true, true, true, false, false, false, true, true, false, false, false, false, false, false, false, false] rfl rfl (any_of HT_.out (by kernel_rfl)) (fun _ _ _ h => h) (Or.inl ⟨by rfl, ?_⟩) ?_ ?_
                      rotate_left
                      · intro w'
                        go_simp
                        with_reducible rfl
                      rotate_left
                      · simp only [Act.put, List.setIfInBounds_toArray, List.set_cons_zero, List.set_cons_succ, i64_w, i32_w]
                        rfl
                      refine pure_ (i := 10) (N := some 20) (v := ?_) (a' := ?_) #[true, true, true, true, true, false, false, false, true, true, true, false, false, false, false, false, false, false] rfl rfl (any_of HT_.out (by kernel_rfl)) (fun _ _ _ h => h) (Or.inl ⟨by rfl, ?_⟩) ?_ ?_
                      rotate_left
                      · intro w'
                        go_simp
                        with_reducible rfl
                      rotate_left
                      · simp only [Act.put, List.setIfInBounds_toArray, List.set_cons_zero, List.set_cons_succ, i64_w, i32_w]
                        rfl
                      refine pure_ (i := 11) (N := some 21) (v := ?_) (a' := ?_) #[true, true, true, true, true, false, false, false, true, true, true, true, false, false, false, false, false, false] rfl rfl (any_of HT_.out (by kernel_rfl)) (fun _ _ _ h => h) (Or.inl ⟨by rfl, ?_⟩) ?_ ?_
                      rotate_left
                      · intro w'
                        go_simp
                        with_reducible rfl
                      rotate_left
                      · simp only [Act.put, List.setIfInBounds_toArray, List.set_cons_zero, List.set_cons_succ, i64_w, i32_w]
                        rfl
                      refine take_ (i := 5) (N := some 15) (v := ?_) (a' := ?_) #[true, true, true, true, true, true, false, false, true, true, true, true, false, false, false, false, false, false] rfl rfl (take_ofW HT_.out HW_.out (by kernel_rfl)) (fun _ _ _ h => h) (Or.inl ⟨by rfl, ?_⟩) hHeld ?_ ?_
                      rotate_left
                      · rintro w' ⟨s0, s1, s2, s3⟩
                        go_simp
                        with_reducible rfl
                      rotate_left
                      · simp only [Act.put, List.setIfInBounds_toArray, List.set_cons_zero, List.set_cons_succ, i64_w, i32_w]
                        rfl
                      refine pure_ (i := 6) (N := some 16) (v := ?_) (a' := ?_) #[true, true, true, true, true, true, true, false, true, true, true, true, false, false, false, false, false, false] rfl rfl (any_of HT_.out (by kernel_rfl)) (fun _ _ _ h => h) (Or.inl ⟨by rfl, ?_⟩) ?_ ?_
                      rotate_left
                      · intro w'
                        go_simp
                        with_reducible rfl
                      rotate_left
                      · simp only [Act.put, List.setIfInBounds_toArray, List.set_cons_zero, List.set_cons_succ, i64_w, i32_w]
                        rfl
                      refine pure_ (i := 7) (N := some 17) (v := ?_) (a' := ?_) #[true, true, true, true, true, true, true, true, true, true, true, true, false, false, false, false, false, false] rfl rfl (any_of HT_.out (by kernel_rfl)) (fun _ _ _ h => h) (Or.inl ⟨by rfl, ?_⟩) ?_ ?_
                      rotate_left
                      · intro w'
                        go_simp
                        with_reducible rfl
                      rotate_left
                      · simp only [Act.put, List.setIfInBounds_toArray, List.set_cons_zero, List.set_cons_succ, i64_w, i32_w]
                        rfl
                      refine take_ (i := 12) (N := some 22) (v := ?_) (a' := ?_) #[true, true, true, true, true, true, true, true, true, true, true, true, true, false, false, false, false, false] rfl rfl (take_ofW HT_.out HW_.out (by kernel_rfl)) (fun _ _ _ h => h) (Or.inl ⟨by rfl, ?_⟩) hHeld ?_ ?_
                      rotate_left
                      · rintro w' ⟨s0, s1, s2, s3⟩
                        go_simp
                        with_reducible rfl
                      rotate_left
                      · simp only [Act.put, List.setIfInBounds_toArray, List.set_cons_zero, List.set_cons_succ, i64_w, i32_w]
                        rfl
                      refine one_ (i := 13) (N := some 23) #[true, true, true, true, true, true, true, true, true, true, true, true, true, true, false, false, false, false] rfl rfl (one_of HT_.out (by kernel_rfl)) (by decide) (fun K hK => ?_)
                      refine goes_ Tryd.func25 (by kernel_rfl) rfl #[.int .u64 ((rd_T42 l0 x7_1).f1)] (by rfl) rfl rfl (by (try simp only [List.map_toArray, List.map_cons, List.map_nil]); first | done | rfl | (simp only [List.length_drop, List.length_take]; rfl)) ?_
                      with_reducible refine (tattlerref09_Decimal.calls k1 ((rd_T42 l0 x7_1).f1) t152 _ A7.out).mono ?_
                      rintro e w12 ⟨rfl, hb⟩
                      refine ⟨_, rfl, ?_⟩
                      have n0_ := Aside0.mk (below_step (by repeat (first | (with_reducible first | exact HB.out | apply below_alloc | apply pw_below_drewN | apply below_drew1) | exact HB.out)) hb)
                      clear HB
                      have HB := n0_
                      clear n0_
                      (try clear hb)
                      (try clear hb2)
                      (try clear hk)
                      (try clear hi)
                      refine hK.out _ _ ⟨((HB.out.cell (World.block_lt_of_cell? w _ hw150_0)).trans hw150_0), ((HB.out.cell (World.block_lt_of_cell? w _ hw150_1)).trans hw150_1), ((HB.out.cell (World.block_lt_of_cell? w _ hw151_0)).trans hw151_0), ((HB.out.cell (World.block_lt_of_cell? w _ hw151_1)).trans hw151_1)⟩ (fun hHeld => ?_)
                      clear hK K
                      refine norm_ (a' := ?_) ?_ ?_
                      rotate_left
                      · show Act.put _ (some 23) _ = _
                        simp only [Act.put, List.setIfInBounds_toArray, List.set_cons_zero, List.set_cons_succ, i64_w, i32_w]
                        rfl
                      refine pure_ (i := 14) (N := some 24) (v := ?_) (a' := ?_) #[true, true, true, true, true, true, true, true, true, true, true, true, true, true, true, false, false, false] rfl rfl (any_of HT_.out (by kernel_rfl)) (fun _ _ _ h => h) (Or.inl ⟨by rfl, ?_⟩) ?_ ?_
                      rotate_left
                      · intro w'
                        go_simp
                        with_reducible rfl
                      rotate_left
                      · simp only [Act.put, List.setIfInBounds_toArray, List.set_cons_zero, List.set_cons_succ, i64_w, i32_w]
                        rfl
                      refine pure_ (i := 15) (N := some 25) (v := ?_) (a' := ?_) #[true, true, true, true, true, true, true, true, true, true, true, true, true, true, true, true, false, false] rfl rfl (any_of HT_.out (by kernel_rfl)) (fun _ _ _ h => h) (Or.inl ⟨by rfl, ?_⟩) ?_ ?_
                      rotate_left
                      · intro w'
                        go_simp
                        with_reducible rfl
                      rotate_left
                      · simp only [Act.put, List.setIfInBounds_toArray, List.set_cons_zero, List.set_cons_succ, i64_w, i32_w]
                        rfl
                      refine pure_ (i := 16) (N := some 26) (v := ?_) (a' := ?_) #[true, true, true, true, true, true, true, true, true, true, true, true, true, true, true, true, true, false] rfl rfl (any_of HT_.out (by kernel_rfl)) (fun _ _ _ h => h) (Or.inl ⟨by rfl, ?_⟩) ?_ ?_
                      rotate_left
                      · intro w'
                        go_simp
                        with_reducible rfl
                      rotate_left
                      · simp only [Act.put, List.setIfInBounds_toArray, List.set_cons_zero, List.set_cons_succ, i64_w, i32_w]
                        rfl
                      refine pure_ (i := 17) (N := some 3) (v := ?_) (a' := ?_) #[true, true, true, true, true, true, true, true, true, true, true, true, true, true, true, true, true, true] rfl rfl (any_of HT_.out (by kernel_rfl)) (fun _ _ _ h => h) (Or.inl ⟨by rfl, ?_⟩) ?_ ?_
                      rotate_left
                      · intro w'
                        go_simp
                        with_reducible rfl
                      rotate_left
                      · simp only [Act.put, List.setIfInBounds_toArray, List.set_cons_zero, List.set_cons_succ, i64_w, i32_w]
                        rfl
                      refine done_ (done_of HT_.out (by kernel_rfl)) ?_
                      try go_wp2
                      go_roundg k1
                      case measure => have := HK1.out; omega
                      case rel => exact ⟨(x3_1 ++ (((((⟨#[83, 84, 65, 84, 32]⟩ : ByteArray) ++ ((rd_T42 l0 x7_1).f0)) ++ (⟨#[32]⟩ : ByteArray)) ++ t152) ++ (⟨#[13, 10]⟩ : ByteArray))), (wrap64 (x7_1 + 1)), (by first | rfl | (simp; done) | (simp [*]; done)), (by first | rfl | (simp; done) | (simp [*]; done)), H', ⟨by have := HK1.out; omega⟩, ⟨by repeat (first | (with_reducible first | exact HB.out | apply below_alloc | apply pw_below_drewN | apply below_drew1) | exact HB.out)⟩⟩
                    · rw [if_neg c10] at H
                      exact absurd H (by simp)
                  · rw [if_neg c9] at H
                    exact absurd H (by simp)
                · rw [if_neg c8] at H
                  exact absurd H (by simp)
              · rw [if_neg c6] at H
                exact absurd H (by simp)
            · rw [if_neg c5] at H
              exact absurd H (by simp)
          · rw [if_neg c4] at H
            exact absurd H (by simp)
        · rw [if_neg c3] at H
          exact absurd H (by simp)
      · rw [if_neg c2] at H
        have c2b0 : decide (x7_1 < (l0.length : Int)) = false := decide_eq_false c2
        clear c2
        by_cases c13 : x3_1.size + 5 ≤ 9223372036854775807
        · rw [if_pos c13] at H
          have c13b0 := eq_true c13
          have c13b1 : decide (x3_1.size + 5 ≤ 9223372036854775807) = true := decide_eq_true c13
          try have c13b2 : (9223372036854775807 < x3_1.size + 5) = False := eq_false (Nat.not_lt.2 c13)
          obtain rfl := Option.some.inj H
          go_wp2
          go_ret
          exact ⟨by first | rfl | (simp [errW_none, errW_some] <;> rfl) | (simp [*, errW_none, errW_some] <;> rfl), by repeat (first | (with_reducible first | exact HB.out | apply below_alloc | apply pw_below_drewN | apply below_drew1) | exact HB.out)⟩
        · rw [if_neg c13] at H
          exact absurd H (by simp)

end Go.Proofs.YtbgoedhpndflpaaDoor.PSay

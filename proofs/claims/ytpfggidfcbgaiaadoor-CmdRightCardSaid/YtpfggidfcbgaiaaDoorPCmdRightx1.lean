-- Printed by a program of this session over its told contracts; Lean checks it.
import Derived.Test.YtpfggidfcbgaiaaDoorPCmdRightx0
import Derived.Test.YtpfggidfcbgaiaaDoorCmdParA
import Derived.Test.YtpfggidfcbgaiaaDoorCmdFix
import Derived.Test.YtpfggidfcbgaiaaDoorCmdSame
import Derived.Test.YtpfggidfcbgaiaaDoorCmdPure
namespace Go.Proofs.YtpfggidfcbgaiaaDoor.PCmdRight
open Go.RowKit Go.Proofs.YtpfggidfcbgaiaaDoorW.PrintWords Go.Proofs.YtpfggidfcbgaiaaDoorW.PrintLast Go.Proofs.YtpfggidfcbgaiaaDoorW.PrintMore
attribute [local go_sem] max2_int min2_int max_two min_two max_three min_three max_four min_four   -- for this text's walks alone
set_option linter.unusedVariables false
set_option linter.unusedSimpArgs false

/-! ### utf8_RuneCountInString: function 37 -/

/-! ### utf8_decodeRuneInStringSlow: function 41 -/

/-! ### utf8_DecodeRuneInString: function 38 -/

/-! ### strings_explode: function 33 -/

/-! ### bytealg_IndexByteString: function 46 -/

/-! ### stringslite_IndexByte: function 42 -/

/-! ### bytealg_IndexString: function 43 -/

/-! ### bytealg_Cutover: function 44 -/

/-! ### bytealg_hashStr_string: function 47 -/

/-! ### bytealg_IndexRabinKarp_string: function 45 -/

/-! ### stringslite_Index: function 40 -/

/-! ### strings_Index: function 35 -/

/-! ### bytealg_CountString: function 39 -/

/-! ### strings_Count: function 34 -/

/-! ### strings_genSplit: function 31 -/

/-! ### strings_Split: function 24 -/

/-! ### cmd_words: function 14 -/

/-! ### cmd_bad: function 15 -/

/-! ### cmd_quiet: function 17 -/

/-! ### stringslite_HasPrefix: function 36 -/

/-! ### stringslite_CutPrefix: function 32 -/

/-! ### strings_CutPrefix: function 27 -/

/-! ### cmd_number: function 28 -/

/-! ### cmd_moment: function 18 -/

/-! ### cmd_amount: function 25 -/

/-! ### rec_KeyMay: function 26 -/

/-! ### cmd_set: function 16 -/

/-! ### cmd_keys: function 19 -/

/-! ### cmd_Parse: function 9 -/
-- NEEDS YtpfggidfcbgaiaaDoorCmdParA
def cmd_Parse.f (a0 : ByteArray) : Option (Int × List ByteArray × Int × Int × ByteArray × Bool × ByteArray × Int) := if a0.size ≤ 1000000 then some (Cmd.parseP (Cmd.wordsB a0)) else none
theorem cmd_Parse.calls (a0 : ByteArray) (r1 : Int) (r2 : List ByteArray) (r3 : Int) (r4 : Int) (r5 : ByteArray) (r6 : Bool) (r7 : ByteArray) (r8 : Int) (w : World) (h : cmd_Parse.f a0 = some (r1, r2, r3, r4, r5, r6, r7, r8)) :
    Calls Tryd.prog 9 #[.string a0] w fun e w' => ∃ v1_ : Value, e = .returned (.tuple #[.agg #[.int .i64 r1, v1_, .int .u32 r3, .int .i64 r4, .string r5, .bool r6, .string r7], .int .i64 r8]) ∧ Kd.Q Kd.string 9 w' w.heap.size (fun _ => True) v1_ r2 ∧ Below w.heap.size w w' := by
  unfold cmd_Parse.f at h
  split at h
  · rename_i hs
    have hc := Cmd.parse_any a0 hs w
    rw [Option.some.inj h] at hc
    exact hc
  · cases h

/-! ### tattlerlaw07_fixed: function 8 -/
-- NEEDS YtpfggidfcbgaiaaDoorCmdFix
def tattlerlaw07_fixed.f : Option Bool := some true
theorem tattlerlaw07_fixed.calls (r : Bool) (w : World) (h : tattlerlaw07_fixed.f = some r) :
    Calls Tryd.prog 8 #[] w fun e w' => e = .returned (.bool r) ∧ Below w.heap.size w w' := by
  cases h
  exact Cmd.fixed_any w

/-! ### tattlerref07_Same: function 11 -/
-- NEEDS YtpfggidfcbgaiaaDoorCmdSame
def tattlerref07_Same.f (a0_0 : Int) (l0_1 : List ByteArray) (a0_2 : Int) (a0_3 : Int) (a0_4 : ByteArray) (a0_5 : Bool) (a0_6 : ByteArray) (a1_0 : Int) (l1_1 : List ByteArray) (a1_2 : Int) (a1_3 : Int) (a1_4 : ByteArray) (a1_5 : Bool) (a1_6 : ByteArray) : Option Bool :=
  some (Cmd.sameP a0_0 l0_1 a0_2 a0_3 a0_4 a0_5 a0_6 a1_0 l1_1 a1_2 a1_3 a1_4 a1_5 a1_6)
theorem tattlerref07_Same.calls (a0_0 : Int) (A0_1 : Option Addr) (c0_1 : Nat) (l0_1 : List ByteArray) (a0_2 : Int) (a0_3 : Int) (a0_4 : ByteArray) (a0_5 : Bool) (a0_6 : ByteArray) (a1_0 : Int) (A1_1 : Option Addr) (c1_1 : Nat) (l1_1 : List ByteArray) (a1_2 : Int) (a1_3 : Int) (a1_4 : ByteArray) (a1_5 : Bool) (a1_6 : ByteArray) (r : Bool) (w : World) (hr0_1 : Kd.C Kd.string w A0_1 l0_1.length l0_1) (hc0_1 : l0_1.length ≤ c0_1) (hr1_1 : Kd.C Kd.string w A1_1 l1_1.length l1_1) (hc1_1 : l1_1.length ≤ c1_1) (h : tattlerref07_Same.f a0_0 l0_1 a0_2 a0_3 a0_4 a0_5 a0_6 a1_0 l1_1 a1_2 a1_3 a1_4 a1_5 a1_6 = some r) :
    Calls Tryd.prog 11 #[.agg #[.int .i64 a0_0, .slice A0_1 l0_1.length c0_1, .int .u32 a0_2, .int .i64 a0_3, .string a0_4, .bool a0_5, .string a0_6], .agg #[.int .i64 a1_0, .slice A1_1 l1_1.length c1_1, .int .u32 a1_2, .int .i64 a1_3, .string a1_4, .bool a1_5, .string a1_6]] w fun e w' => e = .returned (.bool r) ∧ Below w.heap.size w w' := by
  cases h
  exact PCmd.tattlerref07_Same.calls _ a0_0 A0_1 c0_1 l0_1 a0_2 a0_3 a0_4 a0_5 a0_6 a1_0 A1_1 c1_1 l1_1 a1_2 a1_3 a1_4 a1_5 a1_6 _ w hr0_1 hc0_1 hr1_1 hc1_1 (Cmd.same_is a0_0 l0_1 a0_2 a0_3 a0_4 a0_5 a0_6 a1_0 l1_1 a1_2 a1_3 a1_4 a1_5 a1_6 (Kd.C_max hr0_1))

/-! ### tattlerref06_KeyMay: function 12 -/
-- NEEDS YtpfggidfcbgaiaaDoorCmdPure
def tattlerref06_KeyMay.f (a0 : ByteArray) : Option Bool := some (Cmd.keyP a0)
theorem tattlerref06_KeyMay.calls (a0 : ByteArray) (r : Bool) (w : World) (h : tattlerref06_KeyMay.f a0 = some r) :
    Calls Tryd.prog 12 #[.string a0] w fun e w' => e = .returned (.bool r) ∧ Drawn0 w w' := by
  cases h
  exact PCmd.tattlerref06_KeyMay.calls 253 a0 _ w (Cmd.refKey_is a0 253 (by omega))

/-! ### tattlerlaw07_CmdRight: function 5 -/
mutual
def tattlerlaw07_CmdRight.l0 : Nat → Int → List ByteArray → Int → Int → Int → List ByteArray → Int → Int → ByteArray → Bool → ByteArray → Option (Bool)
  | 0, _, _, _, _, _, _, _, _, _, _, _ => none
  | k + 1, x4, x17, x18, x19, x113000, x113001, x113002, x113003, x113004, x113005, x113006 => if x19 < x18 then (if 0 ≤ x19 then (if x19 < (x17.length : Int) then ((tattlerref06_KeyMay.f (rdOf ByteArray.empty x17 x19)).bind fun t114 => (if t114 = true then (tattlerlaw07_CmdRight.l0 k x4 x17 x18 (wrap64 (x19 + 1)) x113000 x113001 x113002 x113003 x113004 x113005 x113006) else (some false))) else (none)) else (none)) else (if x4 < (-1) then (tattlerlaw07_CmdRight.j1 k true x113000 x113001 x113002 x113003 x113004 x113005 x113006) else (if x113000 < 1 then (tattlerlaw07_CmdRight.j1 k true x113000 x113001 x113002 x113003 x113004 x113005 x113006) else (if x113000 > 8 then (tattlerlaw07_CmdRight.j1 k true x113000 x113001 x113002 x113003 x113004 x113005 x113006) else (if x113000 = 2 then (if x4 < 0 then (tattlerlaw07_CmdRight.j1 k true x113000 x113001 x113002 x113003 x113004 x113005 x113006) else (if x4 > 1024 then (tattlerlaw07_CmdRight.j1 k true x113000 x113001 x113002 x113003 x113004 x113005 x113006) else (tattlerlaw07_CmdRight.j1 k false x113000 x113001 x113002 x113003 x113004 x113005 x113006))) else (if x113000 = 8 then (tattlerlaw07_CmdRight.j1 k false x113000 x113001 x113002 x113003 x113004 x113005 x113006) else (tattlerlaw07_CmdRight.j1 k (decide (x4 ≥ 0)) x113000 x113001 x113002 x113003 x113004 x113005 x113006))))))
def tattlerlaw07_CmdRight.j1 : Nat → Bool → Int → List ByteArray → Int → Int → ByteArray → Bool → ByteArray → Option (Bool)
  | 0, _, _, _, _, _, _, _, _ => none
  | k + 1, x65, x113000, x113001, x113002, x113003, x113004, x113005, x113006 => if x65 = true then (some false) else (if x113000 = 8 then ((tattlerlaw07_fixed.f).bind fun t115 => (if t115 = true then ((tattlerref07_Same.f x113000 x113001 x113002 x113003 x113004 x113005 x113006 8 ([] : List ByteArray) 0 0 (⟨#[]⟩ : ByteArray) false x113006).bind fun t116 => (if t116 = true then (if (x113006.size : Int) > 2 then (if 0 ≤ (wrap64 ((x113006.size : Int) - 2)) then (if (wrap64 ((x113006.size : Int) - 2)) ≤ (x113006.size : Int) then (some ((x113006.extract ((wrap64 ((x113006.size : Int) - 2)) : Int).toNat x113006.size).toList == ([13, 10] : List UInt8))) else (none)) else (none)) else (some false)) else (some false))) else (some false))) else ((tattlerlaw07_fixed.f).bind fun t117 => (if t117 = true then (if x113006.toList = ([] : List UInt8) then (some (x113004.toList == ([] : List UInt8))) else (some false)) else (some false))))
end
def tattlerlaw07_CmdRight.f (k : Nat) (a0 : ByteArray) : Option (Bool) := if (a0.size : Int) > 5000 then ((tattlerlaw07_fixed.f).bind fun t101 => (some t101)) else ((cmd_Parse.f a0).bind fun bt102 => (tattlerlaw07_CmdRight.l0 k bt102.2.2.2.2.2.2.2 bt102.2.1 (bt102.2.1.length : Int) 0 bt102.1 bt102.2.1 bt102.2.2.1 bt102.2.2.2.1 bt102.2.2.2.2.1 bt102.2.2.2.2.2.1 bt102.2.2.2.2.2.2.1))
theorem tattlerlaw07_CmdRight.mono_l : ∀ k, (∀ y0 y1 y2 y3 y4 y5 y6 y7 y8 y9 y10, LeO (tattlerlaw07_CmdRight.l0 k y0 y1 y2 y3 y4 y5 y6 y7 y8 y9 y10) (tattlerlaw07_CmdRight.l0 (k + 1) y0 y1 y2 y3 y4 y5 y6 y7 y8 y9 y10)) ∧ (∀ y0 y1 y2 y3 y4 y5 y6 y7, LeO (tattlerlaw07_CmdRight.j1 k y0 y1 y2 y3 y4 y5 y6 y7) (tattlerlaw07_CmdRight.j1 (k + 1) y0 y1 y2 y3 y4 y5 y6 y7))
  | 0 => ⟨fun _ _ _ _ _ _ _ _ _ _ _ r h => by simp [tattlerlaw07_CmdRight.l0] at h, fun _ _ _ _ _ _ _ _ r h => by simp [tattlerlaw07_CmdRight.j1] at h⟩
  | k + 1 => by
    obtain ⟨ih0, ih1⟩ := tattlerlaw07_CmdRight.mono_l k
    refine ⟨?_, ?_⟩
    · intro y0 y1 y2 y3 y4 y5 y6 y7 y8 y9 y10
      unfold tattlerlaw07_CmdRight.l0
      repeat' first
      | (with_reducible exact ih0 _ _ _ _ _ _ _ _ _ _ _)
      | (with_reducible exact ih1 _ _ _ _ _ _ _ _)
      | (with_reducible exact LeO.refl _)
      | (with_reducible exact LeO.none _)
      | (with_reducible refine LeO.ite ?_ ?_)
      | (with_reducible refine LeO.bind ?_ (fun _ => ?_))
      | exact ih0 _ _ _ _ _ _ _ _ _ _ _
      | exact ih1 _ _ _ _ _ _ _ _
      | exact LeO.none _
      | refine LeO.ite ?_ ?_
      | refine LeO.bind ?_ (fun _ => ?_)
    · intro y0 y1 y2 y3 y4 y5 y6 y7
      unfold tattlerlaw07_CmdRight.j1
      repeat' first
      | (with_reducible exact ih0 _ _ _ _ _ _ _ _ _ _ _)
      | (with_reducible exact ih1 _ _ _ _ _ _ _ _)
      | (with_reducible exact LeO.refl _)
      | (with_reducible exact LeO.none _)
      | (with_reducible refine LeO.ite ?_ ?_)
      | (with_reducible refine LeO.bind ?_ (fun _ => ?_))
      | exact ih0 _ _ _ _ _ _ _ _ _ _ _
      | exact ih1 _ _ _ _ _ _ _ _
      | exact LeO.none _
      | refine LeO.ite ?_ ?_
      | refine LeO.bind ?_ (fun _ => ?_)
theorem tattlerlaw07_CmdRight.mono : ∀ a0 k, LeO (tattlerlaw07_CmdRight.f k a0) (tattlerlaw07_CmdRight.f (k + 1) a0) := by
  intro a0 k
  obtain ⟨ih0, ih1⟩ := tattlerlaw07_CmdRight.mono_l k
  unfold tattlerlaw07_CmdRight.f
  repeat' first
      | (with_reducible exact ih0 _ _ _ _ _ _ _ _ _ _ _)
      | (with_reducible exact ih1 _ _ _ _ _ _ _ _)
      | (with_reducible exact LeO.refl _)
      | (with_reducible exact LeO.none _)
      | (with_reducible refine LeO.ite ?_ ?_)
      | (with_reducible refine LeO.bind ?_ (fun _ => ?_))
      | exact ih0 _ _ _ _ _ _ _ _ _ _ _
      | exact ih1 _ _ _ _ _ _ _ _
      | exact LeO.none _
      | refine LeO.ite ?_ ?_
      | refine LeO.bind ?_ (fun _ => ?_)
set_option maxHeartbeats 8000000 in
set_option maxRecDepth 100000 in
theorem tattlerlaw07_CmdRight.calls (k : Nat) (a0 : ByteArray) (r : Bool) (w : World) (h : tattlerlaw07_CmdRight.f k a0 = some r) :
    Calls Tryd.prog 5 #[.string a0] w fun e w' => e = .returned (.bool r) ∧ Below w.heap.size w w' := by
  have hu26 := Tryd.underlying26
  have HB := Aside0.mk (Below.refl w.heap.size w)
  have H : (if (a0.size : Int) > 5000 then ((tattlerlaw07_fixed.f).bind fun t101 => (some t101)) else ((cmd_Parse.f a0).bind fun bt102 => (tattlerlaw07_CmdRight.l0 k bt102.2.2.2.2.2.2.2 bt102.2.1 (bt102.2.1.length : Int) 0 bt102.1 bt102.2.1 bt102.2.2.1 bt102.2.2.2.1 bt102.2.2.2.2.1 bt102.2.2.2.2.2.1 bt102.2.2.2.2.2.2.1))) = some r := h
  clear h
  by_cases c2 : (a0.size : Int) > 5000
  · rw [if_pos c2] at H
    have c2b0 : decide (5000 < (a0.size : Int)) = true := decide_eq_true c2
    have c2b1 : decide (5000 < a0.size) = true := decide_eq_true (by omega)
    clear c2
    replace H := Option.bind_eq_some_iff.mp H
    obtain ⟨t101, A30, H⟩ := H
    replace H : (some t101) = some r := H
    have A3 := Aside0.mk A30
    clear A30
    obtain rfl := Option.some.inj H
    go_enter Tryd.func5, Tryd.ntmps5
    go_wp2_with (first | ((with_reducible refine gate_callee (f := 8) rfl ?_); refine goesL_ (some 10) rfl rfl Tryd.func8 (by kernel_rfl) rfl #[] rfl (by (try simp only [List.map_toArray, List.map_cons, List.map_nil]); first | done | rfl | (simp only [List.length_drop, List.length_take]; rfl)) ?_; (with_reducible refine (tattlerlaw07_fixed.calls  t101 _ A3.out).mono ?_); rintro e w4 ⟨rfl, hb⟩; refine ⟨_, rfl, ?_⟩; have n0_ := Aside0.mk (below_step (by repeat (first | (with_reducible first | exact HB.out | apply below_alloc | apply pw_below_drewN | apply below_drew1) | exact HB.out)) hb); clear HB; have HB := n0_; clear n0_; (try clear hb); (try clear hb2); (try clear hk); (try clear hi)))
    go_ret
    exact ⟨by first | rfl | (simp [errW_none, errW_some] <;> rfl) | (simp [*, errW_none, errW_some] <;> rfl), by repeat (first | (with_reducible first | exact HB.out | apply below_alloc | apply pw_below_drewN | apply below_drew1) | exact HB.out)⟩
  · rw [if_neg c2] at H
    have c2b0 : decide (5000 < (a0.size : Int)) = false := decide_eq_false c2
    have c2b1 : decide (5000 < a0.size) = false := decide_eq_false (by omega)
    clear c2
    replace H := Option.bind_eq_some_iff.mp H
    obtain ⟨⟨t102, t103, t106, t107, t108, t109, t110, t111⟩, A50, H⟩ := H
    replace H : (tattlerlaw07_CmdRight.l0 k t111 t103 (t103.length : Int) 0 t102 t103 t106 t107 t108 t109 t110) = some r := H
    have A5 := Aside0.mk A50
    clear A50
    have H' := Aside0.mk H
    clear H
    go_enter Tryd.func5, Tryd.ntmps5
    go_wp2_with (first | ((with_reducible refine gate_callee (f := 9) rfl ?_); refine goesL_ (some 13) rfl rfl Tryd.func9 (by kernel_rfl) rfl #[.string a0] rfl (by (try simp only [List.map_toArray, List.map_cons, List.map_nil]); first | done | rfl | (simp only [List.length_drop, List.length_take]; rfl)) ?_; (with_reducible refine (cmd_Parse.calls a0 t102 t103 t106 t107 t108 t109 t110 t111 _ A5.out).mono ?_); rintro e w6 ⟨v104, rfl, ho0, hb⟩; refine ⟨_, rfl, ?_⟩; have n0_ := Aside0.mk (Kd.Q_lower ho0 (below_size (by repeat (first | (with_reducible first | exact HB.out | apply below_alloc | apply pw_below_drewN | apply below_drew1) | exact HB.out)))); have n1_ := Aside0.mk (below_step (by repeat (first | (with_reducible first | exact HB.out | apply below_alloc | apply pw_below_drewN | apply below_drew1) | exact HB.out)) hb); clear HB; have HO105 := n0_; have HB := n1_; clear n0_ n1_; (try clear hb); (try clear hb2); (try clear hk); (try clear hi); (try clear ho0)) | ((with_reducible refine gate_dst (N := 3) rfl ?_); (try (refine gate_guard (by rfl) ?_; dsimp only)); refine box_event ?hg (N := 3) ?hd (cs := #[.int .i64 0, .slice none 0 0, .int .u32 0, .int .i64 0, .string (⟨#[]⟩ : ByteArray), .bool false, .string (⟨#[]⟩ : ByteArray)]) (t := 26) ?hr ?_; (case hd => rfl); (case hg => rfl); (case hr => first | (go_simp; done) | (go_simp; rfl)); intro gb112 hg w7 hbox hb; have n0_ := Aside0.mk (Kd.Q_below (by (with_reducible repeat (first | apply Kd.Q_alloc | apply Kd.Q_drewN | apply Kd.Q_drew)); exact HO105.out) hb); have n1_ := Aside0.mk (below_step (by repeat (first | (with_reducible first | exact HB.out | apply below_alloc | apply pw_below_drewN | apply below_drew1) | exact HB.out)) hb); have n2_ := Aside0.mk (hbox); have n3_ := Aside0.mk ((by rw [hg]; exact (below_size (by repeat (first | (with_reducible first | exact HB.out | apply below_alloc | apply pw_below_drewN | apply below_drew1) | exact HB.out))) : w.heap.size ≤ gb112)); have n4_ := Aside0.mk ((by rw [hg]; exact (below_size (by repeat (first | (with_reducible first | exact HB.out | apply below_alloc | apply pw_below_drewN | apply below_drew1) | exact HB.out))) : w.heap.size ≤ gb112)); clear HO105; clear HB; have HO105 := n0_; have HB := n1_; have BK112 := n2_; have GW112 := n3_; have GE112 := n4_; clear n0_ n1_ n2_ n3_ n4_; clear hb hbox hg; have hcz8_0 : w7.cell? ⟨gb112, 0, none⟩ = some (.int .i64 0) := (blk_cell BK112.out 0).trans rfl; have hcz8_1 : w7.cell? ⟨gb112, 1, none⟩ = some (.slice none 0 0) := (blk_cell BK112.out 1).trans rfl; have hcz8_2 : w7.cell? ⟨gb112, 2, none⟩ = some (.int .u32 0) := (blk_cell BK112.out 2).trans rfl; have hcz8_3 : w7.cell? ⟨gb112, 3, none⟩ = some (.int .i64 0) := (blk_cell BK112.out 3).trans rfl; have hcz8_4 : w7.cell? ⟨gb112, 4, none⟩ = some (.string (⟨#[]⟩ : ByteArray)) := (blk_cell BK112.out 4).trans rfl; have hcz8_5 : w7.cell? ⟨gb112, 5, none⟩ = some (.bool false) := (blk_cell BK112.out 5).trans rfl; have hcz8_6 : w7.cell? ⟨gb112, 6, none⟩ = some (.string (⟨#[]⟩ : ByteArray)) := (blk_cell BK112.out 6).trans rfl; have hfz8_0 := blk_frozen BK112.out 0; have hfz8_1 := blk_frozen BK112.out 1; have hfz8_2 := blk_frozen BK112.out 2; have hfz8_3 := blk_frozen BK112.out 3; have hfz8_4 := blk_frozen BK112.out 4; have hfz8_5 := blk_frozen BK112.out 5; have hfz8_6 := blk_frozen BK112.out 6; obtain ⟨Ao9, co9, eo9, _⟩ := Kd.Q_slice HO105.out; subst eo9))
    go_loopg [19] k (fun kq v19 w' => ∃ (x19_1 : Int), v19 = .int .i64 x19_1 ∧ Aside0 (tattlerlaw07_CmdRight.l0 kq t111 t103 (t103.length : Int) x19_1 t102 t103 t106 t107 t108 t109 t110 = some r) ∧ Aside0 (kq ≤ k) ∧ Aside0 (Kd.Q Kd.string 9 w' w.heap.size (fun _ => True) (.slice Ao9 t103.length co9) t103) ∧ Aside0 (Kd.Q Kd.string 9 w' w.heap.size (fun _ => True) (.slice Ao9 t103.length co9) t103) ∧ Aside0 (w'.heap[gb112]? = some (.cells #[.int .i64 t102, (.slice Ao9 t103.length co9), .int .u32 t106, .int .i64 t107, .string t108, .bool t109, .string t110] 26 (0, 0))) ∧ Aside0 (Below w.heap.size w w'))
    case atStart => exact ⟨(0), (by first | rfl | (simp; done) | (simp [*]; done)), H', ⟨Nat.le_refl _⟩, ⟨by (with_reducible repeat (first | apply Kd.Q_alloc | apply Kd.Q_drewN | apply Kd.Q_drew)); exact Kd.Q_mono (Kd.Q_far (p := ⟨gb112, 6, none⟩) (Kd.Q_far (p := ⟨gb112, 5, none⟩) (Kd.Q_far (p := ⟨gb112, 4, none⟩) (Kd.Q_far (p := ⟨gb112, 3, none⟩) (Kd.Q_far (p := ⟨gb112, 2, none⟩) (Kd.Q_far (p := ⟨gb112, 1, none⟩) (Kd.Q_far (p := ⟨gb112, 0, none⟩) (Kd.Q_types HO105.out BK112.out (by decide)) (fun _ hk => hk.2) (.int .i64 t102)) (fun _ hk => hk.2) (.slice Ao9 t103.length co9)) (fun _ hk => hk.2) (.int .u32 t106)) (fun _ hk => hk.2) (.int .i64 t107)) (fun _ hk => hk.2) (.string t108)) (fun _ hk => hk.2) (.bool t109)) (fun _ hk => hk.2) (.string t110)) (fun _ hk => trivial)⟩, ⟨by (with_reducible repeat (first | apply Kd.Q_alloc | apply Kd.Q_drewN | apply Kd.Q_drew)); exact Kd.Q_mono (Kd.Q_far (p := ⟨gb112, 6, none⟩) (Kd.Q_far (p := ⟨gb112, 5, none⟩) (Kd.Q_far (p := ⟨gb112, 4, none⟩) (Kd.Q_far (p := ⟨gb112, 3, none⟩) (Kd.Q_far (p := ⟨gb112, 2, none⟩) (Kd.Q_far (p := ⟨gb112, 1, none⟩) (Kd.Q_far (p := ⟨gb112, 0, none⟩) (Kd.Q_types HO105.out BK112.out (by decide)) (fun _ hk => hk.2) (.int .i64 t102)) (fun _ hk => hk.2) (.slice Ao9 t103.length co9)) (fun _ hk => hk.2) (.int .u32 t106)) (fun _ hk => hk.2) (.int .i64 t107)) (fun _ hk => hk.2) (.string t108)) (fun _ hk => hk.2) (.bool t109)) (fun _ hk => hk.2) (.string t110)) (fun _ hk => trivial)⟩, ⟨by (with_reducible repeat (first | refine blk_drewN ?_ _ | refine blk_drew ?_ | refine blk_alloc ?_ _)); refine blk_put (cs := #[.int .i64 t102, .slice Ao9 t103.length co9, .int .u32 t106, .int .i64 t107, .string t108, .bool t109, .string (⟨#[]⟩ : ByteArray)]) ?_ 6 _ rfl; (with_reducible repeat (first | refine blk_drewN ?_ _ | refine blk_drew ?_ | refine blk_alloc ?_ _)); refine blk_put (cs := #[.int .i64 t102, .slice Ao9 t103.length co9, .int .u32 t106, .int .i64 t107, .string t108, .bool false, .string (⟨#[]⟩ : ByteArray)]) ?_ 5 _ rfl; (with_reducible repeat (first | refine blk_drewN ?_ _ | refine blk_drew ?_ | refine blk_alloc ?_ _)); refine blk_put (cs := #[.int .i64 t102, .slice Ao9 t103.length co9, .int .u32 t106, .int .i64 t107, .string (⟨#[]⟩ : ByteArray), .bool false, .string (⟨#[]⟩ : ByteArray)]) ?_ 4 _ rfl; (with_reducible repeat (first | refine blk_drewN ?_ _ | refine blk_drew ?_ | refine blk_alloc ?_ _)); refine blk_put (cs := #[.int .i64 t102, .slice Ao9 t103.length co9, .int .u32 t106, .int .i64 0, .string (⟨#[]⟩ : ByteArray), .bool false, .string (⟨#[]⟩ : ByteArray)]) ?_ 3 _ rfl; (with_reducible repeat (first | refine blk_drewN ?_ _ | refine blk_drew ?_ | refine blk_alloc ?_ _)); refine blk_put (cs := #[.int .i64 t102, .slice Ao9 t103.length co9, .int .u32 0, .int .i64 0, .string (⟨#[]⟩ : ByteArray), .bool false, .string (⟨#[]⟩ : ByteArray)]) ?_ 2 _ rfl; (with_reducible repeat (first | refine blk_drewN ?_ _ | refine blk_drew ?_ | refine blk_alloc ?_ _)); refine blk_put (cs := #[.int .i64 t102, .slice none 0 0, .int .u32 0, .int .i64 0, .string (⟨#[]⟩ : ByteArray), .bool false, .string (⟨#[]⟩ : ByteArray)]) ?_ 1 _ rfl; (with_reducible repeat (first | refine blk_drewN ?_ _ | refine blk_drew ?_ | refine blk_alloc ?_ _)); refine blk_put (cs := #[.int .i64 0, .slice none 0 0, .int .u32 0, .int .i64 0, .string (⟨#[]⟩ : ByteArray), .bool false, .string (⟨#[]⟩ : ByteArray)]) ?_ 0 _ rfl; (with_reducible repeat (first | refine blk_drewN ?_ _ | refine blk_drew ?_ | refine blk_alloc ?_ _)); exact BK112.out⟩, ⟨by repeat (first | (with_reducible first | exact HB.out | apply below_alloc | apply pw_below_drewN | apply below_drew1 | refine below_set ?_ GE112.out) | exact HB.out)⟩⟩
    case round =>
      clear H'
      try clear c2
      try clear c2b0
      try clear c2b1
      try clear p2
      try clear c5
      try clear c8
      try clear c9
      try clear hcz8_0
      try clear hcz8_1
      try clear hcz8_2
      try clear hcz8_3
      try clear hcz8_4
      try clear hcz8_5
      try clear hcz8_6
      try clear hfz8_0
      try clear hfz8_1
      try clear hfz8_2
      try clear hfz8_3
      try clear hfz8_4
      try clear hfz8_5
      try clear hfz8_6
      obtain ⟨x19_1, rfl, HA, HK1, HO_17, HO_113001, BK112, HB⟩ := hrel
      cases gk with
      | zero => exact absurd HA.out (by simp [tattlerlaw07_CmdRight.l0])
      | succ k1 =>
        have H := HA.out
        clear HA
        simp only [tattlerlaw07_CmdRight.l0] at H
        by_cases c10 : x19_1 < (t103.length : Int)
        · rw [if_pos c10] at H
          have c10b0 : decide (x19_1 < (t103.length : Int)) = true := decide_eq_true c10
          clear c10
          by_cases c11 : 0 ≤ x19_1
          · rw [if_pos c11] at H
            have c11b0 : decide (0 ≤ x19_1) = true := decide_eq_true c11
            clear c11
            by_cases c12 : x19_1 < (t103.length : Int)
            · rw [if_pos c12] at H
              have c12b0 : decide (x19_1 < (t103.length : Int)) = true := decide_eq_true c12
              clear c12
              replace H := Option.bind_eq_some_iff.mp H
              obtain ⟨t114, A130, H⟩ := H
              replace H : (if t114 = true then (tattlerlaw07_CmdRight.l0 k1 t111 t103 (t103.length : Int) (wrap64 (x19_1 + 1)) t102 t103 t106 t107 t108 t109 t110) else (some false)) = some r := H
              have A13 := Aside0.mk A130
              clear A130
              by_cases c14 : t114 = true
              · subst c14
                have H1 : (tattlerlaw07_CmdRight.l0 k1 t111 t103 (t103.length : Int) (wrap64 (x19_1 + 1)) t102 t103 t106 t107 t108 t109 t110) = some r := by rw [if_pos rfl] at H; exact H
                clear H
                have H := H1
                clear H1
                have H' := Aside0.mk H
                clear H
                have p113 : 0 ≤ (x19_1 : Int) := of_decide_eq_true (by first | (with_reducible assumption) | assumption)
                have q113 : x19_1 < (t103.length : Int) := of_decide_eq_true (by first | (with_reducible assumption) | assumption)
                obtain ⟨ad113, e113, hx113_0⟩ := Kd.at_string (Kd.Q_reads' HO_17.out).2.2 x19_1 p113 q113
                cases e113
                replace p113 := eq_true p113
                replace q113 := eq_true q113
                go_wp2_with (first | ((with_reducible refine gate_callee (f := 12) rfl ?_); refine goesL_ (some 24) rfl rfl Tryd.func12 (by kernel_rfl) rfl #[.string (rdOf ByteArray.empty t103 x19_1)] rfl (by (try simp only [List.map_toArray, List.map_cons, List.map_nil]); first | done | rfl | (simp only [List.length_drop, List.length_take]; rfl)) ?_; (with_reducible refine (tattlerref06_KeyMay.calls (rdOf ByteArray.empty t103 x19_1) true _ A13.out).mono ?_); rintro e w' ⟨rfl, ⟨nd, rfl⟩⟩; refine ⟨_, rfl, ?_⟩))
                go_roundg k1
                case measure => have := HK1.out; omega
                case rel => exact ⟨(wrap64 (x19_1 + 1)), (by first | rfl | (simp; done) | (simp [*]; done)), H', ⟨by have := HK1.out; omega⟩, ⟨by (with_reducible repeat (first | apply Kd.Q_alloc | apply Kd.Q_drewN | apply Kd.Q_drew)); exact HO_17.out⟩, ⟨by (with_reducible repeat (first | apply Kd.Q_alloc | apply Kd.Q_drewN | apply Kd.Q_drew)); exact HO_113001.out⟩, ⟨by (with_reducible repeat (first | refine blk_drewN ?_ _ | refine blk_drew ?_ | refine blk_alloc ?_ _)); exact BK112.out⟩, ⟨by repeat (first | (with_reducible first | exact HB.out | apply below_alloc | apply pw_below_drewN | apply below_drew1 | refine below_set ?_ GE112.out) | exact HB.out)⟩⟩
              · replace c14 := Bool.eq_false_iff.mpr c14
                subst c14
                have H1 : (some false) = some r := by rw [if_neg (show ¬ (false = true) by decide)] at H; exact H
                clear H
                have H := H1
                clear H1
                obtain rfl := Option.some.inj H
                have p113 : 0 ≤ (x19_1 : Int) := of_decide_eq_true (by first | (with_reducible assumption) | assumption)
                have q113 : x19_1 < (t103.length : Int) := of_decide_eq_true (by first | (with_reducible assumption) | assumption)
                obtain ⟨ad113, e113, hx113_0⟩ := Kd.at_string (Kd.Q_reads' HO_17.out).2.2 x19_1 p113 q113
                cases e113
                replace p113 := eq_true p113
                replace q113 := eq_true q113
                go_wp2_with (first | ((with_reducible refine gate_callee (f := 12) rfl ?_); refine goesL_ (some 24) rfl rfl Tryd.func12 (by kernel_rfl) rfl #[.string (rdOf ByteArray.empty t103 x19_1)] rfl (by (try simp only [List.map_toArray, List.map_cons, List.map_nil]); first | done | rfl | (simp only [List.length_drop, List.length_take]; rfl)) ?_; (with_reducible refine (tattlerref06_KeyMay.calls (rdOf ByteArray.empty t103 x19_1) false _ A13.out).mono ?_); rintro e w' ⟨rfl, ⟨nd, rfl⟩⟩; refine ⟨_, rfl, ?_⟩))
                go_ret
                exact ⟨by first | rfl | (simp [errW_none, errW_some] <;> rfl) | (simp [*, errW_none, errW_some] <;> rfl), by repeat (first | (with_reducible first | exact HB.out | apply below_alloc | apply pw_below_drewN | apply below_drew1 | refine below_set ?_ GE112.out) | exact HB.out)⟩
            · rw [if_neg c12] at H
              exact absurd H (by simp)
          · rw [if_neg c11] at H
            exact absurd H (by simp)
        · rw [if_neg c10] at H
          have c10b0 : decide (x19_1 < (t103.length : Int)) = false := decide_eq_false c10
          clear c10
          have HC15 := Aside0.mk H
          clear H
          go_upto_region 10 with (fail)
          go_cut [65] (fun v65 wc => ∃ (kq : Nat) (x65_14 : Bool), v65 = .bool x65_14 ∧ Aside0 (tattlerlaw07_CmdRight.j1 kq x65_14 t102 t103 t106 t107 t108 t109 t110 = some r) ∧ Aside0 (kq ≤ k1) ∧ Aside0 (Kd.Q Kd.string 9 wc w.heap.size (fun _ => True) (.slice Ao9 t103.length co9) t103) ∧ Aside0 (wc.heap[gb112]? = some (.cells #[.int .i64 t102, (.slice Ao9 t103.length co9), .int .u32 t106, .int .i64 t107, .string t108, .bool t109, .string t110] 26 (0, 0))) ∧ Aside0 (Below w.heap.size w wc))
          case first =>
            have H := HC15.out
            clear HC15
            by_cases c16 : t111 < (-1)
            · rw [if_pos c16] at H
              have c16b0 : decide (t111 < (-1)) = true := decide_eq_true c16
              clear c16
              (first | rw [c16b0] | (simp only [i64_w, i32_w]; rw [c16b0]) | skip)
              have H' := Aside0.mk H
              clear H
              go_wp2
              go_meet
              case rel => exact ⟨_, (true), (by first | rfl | (simp; done) | (simp [*]; done)), H', ⟨by have := HK1.out; first | omega | exact Nat.le_refl _⟩, ⟨by (with_reducible repeat (first | apply Kd.Q_alloc | apply Kd.Q_drewN | apply Kd.Q_drew)); exact HO_113001.out⟩, ⟨by (with_reducible repeat (first | refine blk_drewN ?_ _ | refine blk_drew ?_ | refine blk_alloc ?_ _)); exact BK112.out⟩, ⟨by repeat (first | (with_reducible first | exact HB.out | apply below_alloc | apply pw_below_drewN | apply below_drew1 | refine below_set ?_ GE112.out) | exact HB.out)⟩⟩
            · rw [if_neg c16] at H
              have c16b0 : decide (t111 < (-1)) = false := decide_eq_false c16
              clear c16
              (first | rw [c16b0] | (simp only [i64_w, i32_w]; rw [c16b0]) | skip)
              by_cases c17 : t102 < 1
              · rw [if_pos c17] at H
                have c17b0 : decide (t102 < 1) = true := decide_eq_true c17
                clear c17
                have H' := Aside0.mk H
                clear H
                have hcz18_0 : wr.cell? ⟨gb112, 0, none⟩ = some (.int .i64 t102) := (blk_cell BK112.out 0).trans rfl
                have hcz18_1 : wr.cell? ⟨gb112, 1, none⟩ = some (.slice Ao9 t103.length co9) := (blk_cell BK112.out 1).trans rfl
                have hcz18_2 : wr.cell? ⟨gb112, 2, none⟩ = some (.int .u32 t106) := (blk_cell BK112.out 2).trans rfl
                have hcz18_3 : wr.cell? ⟨gb112, 3, none⟩ = some (.int .i64 t107) := (blk_cell BK112.out 3).trans rfl
                have hcz18_4 : wr.cell? ⟨gb112, 4, none⟩ = some (.string t108) := (blk_cell BK112.out 4).trans rfl
                have hcz18_5 : wr.cell? ⟨gb112, 5, none⟩ = some (.bool t109) := (blk_cell BK112.out 5).trans rfl
                have hcz18_6 : wr.cell? ⟨gb112, 6, none⟩ = some (.string t110) := (blk_cell BK112.out 6).trans rfl
                have hfz18_0 := blk_frozen BK112.out 0
                have hfz18_1 := blk_frozen BK112.out 1
                have hfz18_2 := blk_frozen BK112.out 2
                have hfz18_3 := blk_frozen BK112.out 3
                have hfz18_4 := blk_frozen BK112.out 4
                have hfz18_5 := blk_frozen BK112.out 5
                have hfz18_6 := blk_frozen BK112.out 6
                go_wp2
                go_meet
                case rel => exact ⟨_, (true), (by first | rfl | (simp; done) | (simp [*]; done)), H', ⟨by have := HK1.out; first | omega | exact Nat.le_refl _⟩, ⟨by (with_reducible repeat (first | apply Kd.Q_alloc | apply Kd.Q_drewN | apply Kd.Q_drew)); exact HO_113001.out⟩, ⟨by (with_reducible repeat (first | refine blk_drewN ?_ _ | refine blk_drew ?_ | refine blk_alloc ?_ _)); exact BK112.out⟩, ⟨by repeat (first | (with_reducible first | exact HB.out | apply below_alloc | apply pw_below_drewN | apply below_drew1 | refine below_set ?_ GE112.out) | exact HB.out)⟩⟩
              · rw [if_neg c17] at H
                have c17b0 : decide (t102 < 1) = false := decide_eq_false c17
                clear c17
                by_cases c19 : t102 > 8
                · rw [if_pos c19] at H
                  have c19b0 : decide (8 < t102) = true := decide_eq_true c19
                  clear c19
                  have H' := Aside0.mk H
                  clear H
                  have hcz20_0 : wr.cell? ⟨gb112, 0, none⟩ = some (.int .i64 t102) := (blk_cell BK112.out 0).trans rfl
                  have hcz20_1 : wr.cell? ⟨gb112, 1, none⟩ = some (.slice Ao9 t103.length co9) := (blk_cell BK112.out 1).trans rfl
                  have hcz20_2 : wr.cell? ⟨gb112, 2, none⟩ = some (.int .u32 t106) := (blk_cell BK112.out 2).trans rfl
                  have hcz20_3 : wr.cell? ⟨gb112, 3, none⟩ = some (.int .i64 t107) := (blk_cell BK112.out 3).trans rfl
                  have hcz20_4 : wr.cell? ⟨gb112, 4, none⟩ = some (.string t108) := (blk_cell BK112.out 4).trans rfl
                  have hcz20_5 : wr.cell? ⟨gb112, 5, none⟩ = some (.bool t109) := (blk_cell BK112.out 5).trans rfl
                  have hcz20_6 : wr.cell? ⟨gb112, 6, none⟩ = some (.string t110) := (blk_cell BK112.out 6).trans rfl
                  have hfz20_0 := blk_frozen BK112.out 0
                  have hfz20_1 := blk_frozen BK112.out 1
                  have hfz20_2 := blk_frozen BK112.out 2
                  have hfz20_3 := blk_frozen BK112.out 3
                  have hfz20_4 := blk_frozen BK112.out 4
                  have hfz20_5 := blk_frozen BK112.out 5
                  have hfz20_6 := blk_frozen BK112.out 6
                  go_wp2
                  go_meet
                  case rel => exact ⟨_, (true), (by first | rfl | (simp; done) | (simp [*]; done)), H', ⟨by have := HK1.out; first | omega | exact Nat.le_refl _⟩, ⟨by (with_reducible repeat (first | apply Kd.Q_alloc | apply Kd.Q_drewN | apply Kd.Q_drew)); exact HO_113001.out⟩, ⟨by (with_reducible repeat (first | refine blk_drewN ?_ _ | refine blk_drew ?_ | refine blk_alloc ?_ _)); exact BK112.out⟩, ⟨by repeat (first | (with_reducible first | exact HB.out | apply below_alloc | apply pw_below_drewN | apply below_drew1 | refine below_set ?_ GE112.out) | exact HB.out)⟩⟩
                · rw [if_neg c19] at H
                  have c19b0 : decide (8 < t102) = false := decide_eq_false c19
                  clear c19
                  by_cases c21 : t102 = 2
                  · rw [if_pos c21] at H
                    have c21b0 : (t102 == 2) = true := beq_iff_eq.mpr c21
                    have c21b1 : (t102 != 2) = false := bne_eq_false_iff_eq.mpr c21
                    clear c21
                    by_cases c22 : t111 < 0
                    · rw [if_pos c22] at H
                      have c22b0 : decide (t111 < 0) = true := decide_eq_true c22
                      clear c22
                      have H' := Aside0.mk H
                      clear H
                      have hcz23_0 : wr.cell? ⟨gb112, 0, none⟩ = some (.int .i64 t102) := (blk_cell BK112.out 0).trans rfl
                      have hcz23_1 : wr.cell? ⟨gb112, 1, none⟩ = some (.slice Ao9 t103.length co9) := (blk_cell BK112.out 1).trans rfl
                      have hcz23_2 : wr.cell? ⟨gb112, 2, none⟩ = some (.int .u32 t106) := (blk_cell BK112.out 2).trans rfl
                      have hcz23_3 : wr.cell? ⟨gb112, 3, none⟩ = some (.int .i64 t107) := (blk_cell BK112.out 3).trans rfl
                      have hcz23_4 : wr.cell? ⟨gb112, 4, none⟩ = some (.string t108) := (blk_cell BK112.out 4).trans rfl
                      have hcz23_5 : wr.cell? ⟨gb112, 5, none⟩ = some (.bool t109) := (blk_cell BK112.out 5).trans rfl
                      have hcz23_6 : wr.cell? ⟨gb112, 6, none⟩ = some (.string t110) := (blk_cell BK112.out 6).trans rfl
                      have hfz23_0 := blk_frozen BK112.out 0
                      have hfz23_1 := blk_frozen BK112.out 1
                      have hfz23_2 := blk_frozen BK112.out 2
                      have hfz23_3 := blk_frozen BK112.out 3
                      have hfz23_4 := blk_frozen BK112.out 4
                      have hfz23_5 := blk_frozen BK112.out 5
                      have hfz23_6 := blk_frozen BK112.out 6
                      go_wp2
                      go_meet
                      case rel => exact ⟨_, (true), (by first | rfl | (simp; done) | (simp [*]; done)), H', ⟨by have := HK1.out; first | omega | exact Nat.le_refl _⟩, ⟨by (with_reducible repeat (first | apply Kd.Q_alloc | apply Kd.Q_drewN | apply Kd.Q_drew)); exact HO_113001.out⟩, ⟨by (with_reducible repeat (first | refine blk_drewN ?_ _ | refine blk_drew ?_ | refine blk_alloc ?_ _)); exact BK112.out⟩, ⟨by repeat (first | (with_reducible first | exact HB.out | apply below_alloc | apply pw_below_drewN | apply below_drew1 | refine below_set ?_ GE112.out) | exact HB.out)⟩⟩
                    · rw [if_neg c22] at H
                      have c22b0 : decide (t111 < 0) = false := decide_eq_false c22
                      clear c22
                      by_cases c24 : t111 > 1024
                      · rw [if_pos c24] at H
                        have c24b0 : decide (1024 < t111) = true := decide_eq_true c24
                        clear c24
                        have H' := Aside0.mk H
                        clear H
                        have hcz25_0 : wr.cell? ⟨gb112, 0, none⟩ = some (.int .i64 t102) := (blk_cell BK112.out 0).trans rfl
                        have hcz25_1 : wr.cell? ⟨gb112, 1, none⟩ = some (.slice Ao9 t103.length co9) := (blk_cell BK112.out 1).trans rfl
                        have hcz25_2 : wr.cell? ⟨gb112, 2, none⟩ = some (.int .u32 t106) := (blk_cell BK112.out 2).trans rfl
                        have hcz25_3 : wr.cell? ⟨gb112, 3, none⟩ = some (.int .i64 t107) := (blk_cell BK112.out 3).trans rfl
                        have hcz25_4 : wr.cell? ⟨gb112, 4, none⟩ = some (.string t108) := (blk_cell BK112.out 4).trans rfl
                        have hcz25_5 : wr.cell? ⟨gb112, 5, none⟩ = some (.bool t109) := (blk_cell BK112.out 5).trans rfl
                        have hcz25_6 : wr.cell? ⟨gb112, 6, none⟩ = some (.string t110) := (blk_cell BK112.out 6).trans rfl
                        have hfz25_0 := blk_frozen BK112.out 0
                        have hfz25_1 := blk_frozen BK112.out 1
                        have hfz25_2 := blk_frozen BK112.out 2
                        have hfz25_3 := blk_frozen BK112.out 3
                        have hfz25_4 := blk_frozen BK112.out 4
                        have hfz25_5 := blk_frozen BK112.out 5
                        have hfz25_6 := blk_frozen BK112.out 6
                        go_wp2
                        go_meet
                        case rel => exact ⟨_, (true), (by first | rfl | (simp; done) | (simp [*]; done)), H', ⟨by have := HK1.out; first | omega | exact Nat.le_refl _⟩, ⟨by (with_reducible repeat (first | apply Kd.Q_alloc | apply Kd.Q_drewN | apply Kd.Q_drew)); exact HO_113001.out⟩, ⟨by (with_reducible repeat (first | refine blk_drewN ?_ _ | refine blk_drew ?_ | refine blk_alloc ?_ _)); exact BK112.out⟩, ⟨by repeat (first | (with_reducible first | exact HB.out | apply below_alloc | apply pw_below_drewN | apply below_drew1 | refine below_set ?_ GE112.out) | exact HB.out)⟩⟩
                      · rw [if_neg c24] at H
                        have c24b0 : decide (1024 < t111) = false := decide_eq_false c24
                        clear c24
                        have H' := Aside0.mk H
                        clear H
                        have hcz26_0 : wr.cell? ⟨gb112, 0, none⟩ = some (.int .i64 t102) := (blk_cell BK112.out 0).trans rfl
                        have hcz26_1 : wr.cell? ⟨gb112, 1, none⟩ = some (.slice Ao9 t103.length co9) := (blk_cell BK112.out 1).trans rfl
                        have hcz26_2 : wr.cell? ⟨gb112, 2, none⟩ = some (.int .u32 t106) := (blk_cell BK112.out 2).trans rfl
                        have hcz26_3 : wr.cell? ⟨gb112, 3, none⟩ = some (.int .i64 t107) := (blk_cell BK112.out 3).trans rfl
                        have hcz26_4 : wr.cell? ⟨gb112, 4, none⟩ = some (.string t108) := (blk_cell BK112.out 4).trans rfl
                        have hcz26_5 : wr.cell? ⟨gb112, 5, none⟩ = some (.bool t109) := (blk_cell BK112.out 5).trans rfl
                        have hcz26_6 : wr.cell? ⟨gb112, 6, none⟩ = some (.string t110) := (blk_cell BK112.out 6).trans rfl
                        have hfz26_0 := blk_frozen BK112.out 0
                        have hfz26_1 := blk_frozen BK112.out 1
                        have hfz26_2 := blk_frozen BK112.out 2
                        have hfz26_3 := blk_frozen BK112.out 3
                        have hfz26_4 := blk_frozen BK112.out 4
                        have hfz26_5 := blk_frozen BK112.out 5
                        have hfz26_6 := blk_frozen BK112.out 6
                        go_wp2
                        go_meet
                        case rel => exact ⟨_, (false), (by first | rfl | (simp; done) | (simp [*]; done)), H', ⟨by have := HK1.out; first | omega | exact Nat.le_refl _⟩, ⟨by (with_reducible repeat (first | apply Kd.Q_alloc | apply Kd.Q_drewN | apply Kd.Q_drew)); exact HO_113001.out⟩, ⟨by (with_reducible repeat (first | refine blk_drewN ?_ _ | refine blk_drew ?_ | refine blk_alloc ?_ _)); exact BK112.out⟩, ⟨by repeat (first | (with_reducible first | exact HB.out | apply below_alloc | apply pw_below_drewN | apply below_drew1 | refine below_set ?_ GE112.out) | exact HB.out)⟩⟩
                  · rw [if_neg c21] at H
                    have c21b0 : (t102 == 2) = false := beq_eq_false_iff_ne.mpr c21
                    have c21b1 : (t102 != 2) = true := bne_iff_ne.mpr c21
                    by_cases c27 : t102 = 8
                    · rw [if_pos c27] at H
                      have c27b0 : (t102 == 8) = true := beq_iff_eq.mpr c27
                      have c27b1 : (t102 != 8) = false := bne_eq_false_iff_eq.mpr c27
                      clear c27
                      have H' := Aside0.mk H
                      clear H
                      have hcz28_0 : wr.cell? ⟨gb112, 0, none⟩ = some (.int .i64 t102) := (blk_cell BK112.out 0).trans rfl
                      have hcz28_1 : wr.cell? ⟨gb112, 1, none⟩ = some (.slice Ao9 t103.length co9) := (blk_cell BK112.out 1).trans rfl
                      have hcz28_2 : wr.cell? ⟨gb112, 2, none⟩ = some (.int .u32 t106) := (blk_cell BK112.out 2).trans rfl
                      have hcz28_3 : wr.cell? ⟨gb112, 3, none⟩ = some (.int .i64 t107) := (blk_cell BK112.out 3).trans rfl
                      have hcz28_4 : wr.cell? ⟨gb112, 4, none⟩ = some (.string t108) := (blk_cell BK112.out 4).trans rfl
                      have hcz28_5 : wr.cell? ⟨gb112, 5, none⟩ = some (.bool t109) := (blk_cell BK112.out 5).trans rfl
                      have hcz28_6 : wr.cell? ⟨gb112, 6, none⟩ = some (.string t110) := (blk_cell BK112.out 6).trans rfl
                      have hfz28_0 := blk_frozen BK112.out 0
                      have hfz28_1 := blk_frozen BK112.out 1
                      have hfz28_2 := blk_frozen BK112.out 2
                      have hfz28_3 := blk_frozen BK112.out 3
                      have hfz28_4 := blk_frozen BK112.out 4
                      have hfz28_5 := blk_frozen BK112.out 5
                      have hfz28_6 := blk_frozen BK112.out 6
                      go_wp2
                      go_meet
                      case rel => exact ⟨_, (false), (by first | rfl | (simp; done) | (simp [*]; done)), H', ⟨by have := HK1.out; first | omega | exact Nat.le_refl _⟩, ⟨by (with_reducible repeat (first | apply Kd.Q_alloc | apply Kd.Q_drewN | apply Kd.Q_drew)); exact HO_113001.out⟩, ⟨by (with_reducible repeat (first | refine blk_drewN ?_ _ | refine blk_drew ?_ | refine blk_alloc ?_ _)); exact BK112.out⟩, ⟨by repeat (first | (with_reducible first | exact HB.out | apply below_alloc | apply pw_below_drewN | apply below_drew1 | refine below_set ?_ GE112.out) | exact HB.out)⟩⟩
                    · rw [if_neg c27] at H
                      have c27b0 : (t102 == 8) = false := beq_eq_false_iff_ne.mpr c27
                      have c27b1 : (t102 != 8) = true := bne_iff_ne.mpr c27
                      have H' := Aside0.mk H
                      clear H
                      have hcz29_0 : wr.cell? ⟨gb112, 0, none⟩ = some (.int .i64 t102) := (blk_cell BK112.out 0).trans rfl
                      have hcz29_1 : wr.cell? ⟨gb112, 1, none⟩ = some (.slice Ao9 t103.length co9) := (blk_cell BK112.out 1).trans rfl
                      have hcz29_2 : wr.cell? ⟨gb112, 2, none⟩ = some (.int .u32 t106) := (blk_cell BK112.out 2).trans rfl
                      have hcz29_3 : wr.cell? ⟨gb112, 3, none⟩ = some (.int .i64 t107) := (blk_cell BK112.out 3).trans rfl
                      have hcz29_4 : wr.cell? ⟨gb112, 4, none⟩ = some (.string t108) := (blk_cell BK112.out 4).trans rfl
                      have hcz29_5 : wr.cell? ⟨gb112, 5, none⟩ = some (.bool t109) := (blk_cell BK112.out 5).trans rfl
                      have hcz29_6 : wr.cell? ⟨gb112, 6, none⟩ = some (.string t110) := (blk_cell BK112.out 6).trans rfl
                      have hfz29_0 := blk_frozen BK112.out 0
                      have hfz29_1 := blk_frozen BK112.out 1
                      have hfz29_2 := blk_frozen BK112.out 2
                      have hfz29_3 := blk_frozen BK112.out 3
                      have hfz29_4 := blk_frozen BK112.out 4
                      have hfz29_5 := blk_frozen BK112.out 5
                      have hfz29_6 := blk_frozen BK112.out 6
                      go_wp2
                      go_meet
                      case rel => exact ⟨_, (decide (t111 ≥ 0)), (by first | rfl | (simp; done) | (simp [*]; done)), H', ⟨by have := HK1.out; first | omega | exact Nat.le_refl _⟩, ⟨by (with_reducible repeat (first | apply Kd.Q_alloc | apply Kd.Q_drewN | apply Kd.Q_drew)); exact HO_113001.out⟩, ⟨by (with_reducible repeat (first | refine blk_drewN ?_ _ | refine blk_drew ?_ | refine blk_alloc ?_ _)); exact BK112.out⟩, ⟨by repeat (first | (with_reducible first | exact HB.out | apply below_alloc | apply pw_below_drewN | apply below_drew1 | refine below_set ?_ GE112.out) | exact HB.out)⟩⟩
          case rest =>
            clear HC15
            try clear c1
            try clear p1
            try clear q1
            try clear hx1
            try clear c2
            try clear c2b0
            try clear c2b1
            try clear p2
            try clear c5
            try clear p6
            try clear c8
            try clear c9
            try clear c10
            try clear c10b0
            try clear c11
            try clear c11b0
            try clear p11
            try clear q11
            try clear hx11
            try clear c12
            try clear c12b0
            try clear c14
            try clear c16
            try clear c16b0
            try clear c17
            try clear c17b0
            try clear c19
            try clear c19b0
            try clear c21
            try clear c21b0
            try clear c21b1
            try clear c22
            try clear c22b0
            try clear c24
            try clear c24b0
            try clear c27
            try clear c27b0
            try clear c27b1
            try clear hcz18_0
            try clear hcz18_1
            try clear hcz18_2
            try clear hcz18_3
            try clear hcz18_4
            try clear hcz18_5
            try clear hcz18_6
            try clear hcz20_0
            try clear hcz20_1
            try clear hcz20_2
            try clear hcz20_3
            try clear hcz20_4
            try clear hcz20_5
            try clear hcz20_6
            try clear hcz23_0
            try clear hcz23_1
            try clear hcz23_2
            try clear hcz23_3
            try clear hcz23_4
            try clear hcz23_5
            try clear hcz23_6
            try clear hcz25_0
            try clear hcz25_1
            try clear hcz25_2
            try clear hcz25_3
            try clear hcz25_4
            try clear hcz25_5
            try clear hcz25_6
            try clear hcz26_0
            try clear hcz26_1
            try clear hcz26_2
            try clear hcz26_3
            try clear hcz26_4
            try clear hcz26_5
            try clear hcz26_6
            try clear hcz28_0
            try clear hcz28_1
            try clear hcz28_2
            try clear hcz28_3
            try clear hcz28_4
            try clear hcz28_5
            try clear hcz28_6
            try clear hcz29_0
            try clear hcz29_1
            try clear hcz29_2
            try clear hcz29_3
            try clear hcz29_4
            try clear hcz29_5
            try clear hcz29_6
            try clear hcz8_0
            try clear hcz8_1
            try clear hcz8_2
            try clear hcz8_3
            try clear hcz8_4
            try clear hcz8_5
            try clear hcz8_6
            try clear hfz18_0
            try clear hfz18_1
            try clear hfz18_2
            try clear hfz18_3
            try clear hfz18_4
            try clear hfz18_5
            try clear hfz18_6
            try clear hfz20_0
            try clear hfz20_1
            try clear hfz20_2
            try clear hfz20_3
            try clear hfz20_4
            try clear hfz20_5
            try clear hfz20_6
            try clear hfz23_0
            try clear hfz23_1
            try clear hfz23_2
            try clear hfz23_3
            try clear hfz23_4
            try clear hfz23_5
            try clear hfz23_6
            try clear hfz25_0
            try clear hfz25_1
            try clear hfz25_2
            try clear hfz25_3
            try clear hfz25_4
            try clear hfz25_5
            try clear hfz25_6
            try clear hfz26_0
            try clear hfz26_1
            try clear hfz26_2
            try clear hfz26_3
            try clear hfz26_4
            try clear hfz26_5
            try clear hfz26_6
            try clear hfz28_0
            try clear hfz28_1
            try clear hfz28_2
            try clear hfz28_3
            try clear hfz28_4
            try clear hfz28_5
            try clear hfz28_6
            try clear hfz29_0
            try clear hfz29_1
            try clear hfz29_2
            try clear hfz29_3
            try clear hfz29_4
            try clear hfz29_5
            try clear hfz29_6
            try clear hfz8_0
            try clear hfz8_1
            try clear hfz8_2
            try clear hfz8_3
            try clear hfz8_4
            try clear hfz8_5
            try clear hfz8_6
            try clear hx113_0
            try clear p113
            try clear p2
            try clear q113
            obtain ⟨kq, x65_14, rfl, HA, HJ14, HO_113001, BK112, HB⟩ := hcut
            cases kq with
            | zero => exact absurd HA.out (by simp [tattlerlaw07_CmdRight.j1])
            | succ kj14 =>
              have H := HA.out
              clear HA
              simp only [tattlerlaw07_CmdRight.j1] at H
              by_cases c30 : x65_14 = true
              · subst c30
                have H1 : (some false) = some r := by rw [if_pos rfl] at H; exact H
                clear H
                have H := H1
                clear H1
                obtain rfl := Option.some.inj H
                go_wp2
                go_ret
                exact ⟨by first | rfl | (simp [errW_none, errW_some] <;> rfl) | (simp [*, errW_none, errW_some] <;> rfl), by repeat (first | (with_reducible first | exact HB.out | apply below_alloc | apply pw_below_drewN | apply below_drew1 | refine below_set ?_ GE112.out) | exact HB.out)⟩
              · replace c30 := Bool.eq_false_iff.mpr c30
                subst c30
                have H1 : (if t102 = 8 then ((tattlerlaw07_fixed.f).bind fun t115 => (if t115 = true then ((tattlerref07_Same.f t102 t103 t106 t107 t108 t109 t110 8 ([] : List ByteArray) 0 0 (⟨#[]⟩ : ByteArray) false t110).bind fun t116 => (if t116 = true then (if (t110.size : Int) > 2 then (if 0 ≤ (wrap64 ((t110.size : Int) - 2)) then (if (wrap64 ((t110.size : Int) - 2)) ≤ (t110.size : Int) then (some ((t110.extract ((wrap64 ((t110.size : Int) - 2)) : Int).toNat t110.size).toList == ([13, 10] : List UInt8))) else (none)) else (none)) else (some false)) else (some false))) else (some false))) else ((tattlerlaw07_fixed.f).bind fun t117 => (if t117 = true then (if t110.toList = ([] : List UInt8) then (some (t108.toList == ([] : List UInt8))) else (some false)) else (some false)))) = some r := by rw [if_neg (show ¬ (false = true) by decide)] at H; exact H
                clear H
                have H := H1
                clear H1
                by_cases c31 : t102 = 8
                · rw [if_pos c31] at H
                  have c31b0 : (t102 == 8) = true := beq_iff_eq.mpr c31
                  have c31b1 : (t102 != 8) = false := bne_eq_false_iff_eq.mpr c31
                  clear c31
                  replace H := Option.bind_eq_some_iff.mp H
                  obtain ⟨t115, A320, H⟩ := H
                  replace H : (if t115 = true then ((tattlerref07_Same.f t102 t103 t106 t107 t108 t109 t110 8 ([] : List ByteArray) 0 0 (⟨#[]⟩ : ByteArray) false t110).bind fun t116 => (if t116 = true then (if (t110.size : Int) > 2 then (if 0 ≤ (wrap64 ((t110.size : Int) - 2)) then (if (wrap64 ((t110.size : Int) - 2)) ≤ (t110.size : Int) then (some ((t110.extract ((wrap64 ((t110.size : Int) - 2)) : Int).toNat t110.size).toList == ([13, 10] : List UInt8))) else (none)) else (none)) else (some false)) else (some false))) else (some false)) = some r := H
                  have A32 := Aside0.mk A320
                  clear A320
                  by_cases c33 : t115 = true
                  · subst c33
                    have H1 : ((tattlerref07_Same.f t102 t103 t106 t107 t108 t109 t110 8 ([] : List ByteArray) 0 0 (⟨#[]⟩ : ByteArray) false t110).bind fun t116 => (if t116 = true then (if (t110.size : Int) > 2 then (if 0 ≤ (wrap64 ((t110.size : Int) - 2)) then (if (wrap64 ((t110.size : Int) - 2)) ≤ (t110.size : Int) then (some ((t110.extract ((wrap64 ((t110.size : Int) - 2)) : Int).toNat t110.size).toList == ([13, 10] : List UInt8))) else (none)) else (none)) else (some false)) else (some false))) = some r := by rw [if_pos rfl] at H; exact H
                    clear H
                    have H := H1
                    clear H1
                    replace H := Option.bind_eq_some_iff.mp H
                    obtain ⟨t116, A340, H⟩ := H
                    replace H : (if t116 = true then (if (t110.size : Int) > 2 then (if 0 ≤ (wrap64 ((t110.size : Int) - 2)) then (if (wrap64 ((t110.size : Int) - 2)) ≤ (t110.size : Int) then (some ((t110.extract ((wrap64 ((t110.size : Int) - 2)) : Int).toNat t110.size).toList == ([13, 10] : List UInt8))) else (none)) else (none)) else (some false)) else (some false)) = some r := H
                    have A34 := Aside0.mk A340
                    clear A340
                    by_cases c35 : t116 = true
                    · subst c35
                      have H1 : (if (t110.size : Int) > 2 then (if 0 ≤ (wrap64 ((t110.size : Int) - 2)) then (if (wrap64 ((t110.size : Int) - 2)) ≤ (t110.size : Int) then (some ((t110.extract ((wrap64 ((t110.size : Int) - 2)) : Int).toNat t110.size).toList == ([13, 10] : List UInt8))) else (none)) else (none)) else (some false)) = some r := by rw [if_pos rfl] at H; exact H
                      clear H
                      have H := H1
                      clear H1
                      by_cases c36 : (t110.size : Int) > 2
                      · rw [if_pos c36] at H
                        have c36b0 : decide (2 < (t110.size : Int)) = true := decide_eq_true c36
                        have c36b1 : decide (2 < t110.size) = true := decide_eq_true (by omega)
                        clear c36
                        obtain ⟨ji37, hji37⟩ : ∃ j_ : Int, (wrap64 ((t110.size : Int) - 2)) = j_ := ⟨_, rfl⟩
                        replace H : (if 0 ≤ (ji37) then (if (ji37) ≤ (t110.size : Int) then (some ((t110.extract ((ji37) : Int).toNat t110.size).toList == ([13, 10] : List UInt8))) else (none)) else (none)) = some r := by first | (rw [hji37] at H; exact H) | (simp only [hji37] at H ⊢; exact H)
                        (try rw [hji37] at A32)
                        (try rw [hji37] at A34)
                        have hji37w : (IntKind.i64.wrap ((t110.size : Int) - 2)) = ji37 := (i64_w _).trans hji37
                        by_cases c38 : 0 ≤ (ji37)
                        · rw [if_pos c38] at H
                          have c38b0 := eq_true c38
                          have c38b1 : decide (0 ≤ (ji37)) = true := decide_eq_true c38
                          clear c38
                          by_cases c39 : (ji37) ≤ (t110.size : Int)
                          · rw [if_pos c39] at H
                            have c39b0 := eq_true c39
                            have c39b1 : decide ((ji37) ≤ (t110.size : Int)) = true := decide_eq_true c39
                            clear c39
                            obtain rfl := Option.some.inj H
                            have hcz40_0 : wc.cell? ⟨gb112, 0, none⟩ = some (.int .i64 t102) := (blk_cell BK112.out 0).trans rfl
                            have hcz40_1 : wc.cell? ⟨gb112, 1, none⟩ = some (.slice Ao9 t103.length co9) := (blk_cell BK112.out 1).trans rfl
                            have hcz40_2 : wc.cell? ⟨gb112, 2, none⟩ = some (.int .u32 t106) := (blk_cell BK112.out 2).trans rfl
                            have hcz40_3 : wc.cell? ⟨gb112, 3, none⟩ = some (.int .i64 t107) := (blk_cell BK112.out 3).trans rfl
                            have hcz40_4 : wc.cell? ⟨gb112, 4, none⟩ = some (.string t108) := (blk_cell BK112.out 4).trans rfl
                            have hcz40_5 : wc.cell? ⟨gb112, 5, none⟩ = some (.bool t109) := (blk_cell BK112.out 5).trans rfl
                            have hcz40_6 : wc.cell? ⟨gb112, 6, none⟩ = some (.string t110) := (blk_cell BK112.out 6).trans rfl
                            have hfz40_0 := blk_frozen BK112.out 0
                            have hfz40_1 := blk_frozen BK112.out 1
                            have hfz40_2 := blk_frozen BK112.out 2
                            have hfz40_3 := blk_frozen BK112.out 3
                            have hfz40_4 := blk_frozen BK112.out 4
                            have hfz40_5 := blk_frozen BK112.out 5
                            have hfz40_6 := blk_frozen BK112.out 6
                            go_wp2_with (first | ((with_reducible refine gate_callee (f := 8) rfl ?_); refine goesL_ (some 69) rfl rfl Tryd.func8 (by kernel_rfl) rfl #[] rfl (by (try simp only [List.map_toArray, List.map_cons, List.map_nil]); first | done | rfl | (simp only [List.length_drop, List.length_take]; rfl)) ?_; (with_reducible refine (tattlerlaw07_fixed.calls  true _ A32.out).mono ?_); rintro e w41 ⟨rfl, hb⟩; refine ⟨_, rfl, ?_⟩; have n0_ := Aside0.mk (Kd.Q_below (by (with_reducible repeat (first | apply Kd.Q_alloc | apply Kd.Q_drewN | apply Kd.Q_drew)); exact HO_113001.out) hb); have n1_ := Aside0.mk (blk_below (g := gb112) (o := .cells #[.int .i64 t102, .slice Ao9 t103.length co9, .int .u32 t106, .int .i64 t107, .string t108, .bool t109, .string t110] 26 (0, 0)) (by (with_reducible repeat (first | refine blk_drewN ?_ _ | refine blk_drew ?_ | refine blk_alloc ?_ _)); exact BK112.out) hb); have n2_ := Aside0.mk (below_step (by repeat (first | (with_reducible first | exact HB.out | apply below_alloc | apply pw_below_drewN | apply below_drew1 | refine below_set ?_ GE112.out) | exact HB.out)) hb); clear HO_113001; clear BK112; clear HB; have HO_113001 := n0_; have BK112 := n1_; have HB := n2_; clear n0_ n1_ n2_; (try clear hb); (try clear hb2); (try clear hk); (try clear hi); have hcz42_0 : w41.cell? ⟨gb112, 0, none⟩ = some (.int .i64 t102) := (blk_cell BK112.out 0).trans rfl; have hcz42_1 : w41.cell? ⟨gb112, 1, none⟩ = some (.slice Ao9 t103.length co9) := (blk_cell BK112.out 1).trans rfl; have hcz42_2 : w41.cell? ⟨gb112, 2, none⟩ = some (.int .u32 t106) := (blk_cell BK112.out 2).trans rfl; have hcz42_3 : w41.cell? ⟨gb112, 3, none⟩ = some (.int .i64 t107) := (blk_cell BK112.out 3).trans rfl; have hcz42_4 : w41.cell? ⟨gb112, 4, none⟩ = some (.string t108) := (blk_cell BK112.out 4).trans rfl; have hcz42_5 : w41.cell? ⟨gb112, 5, none⟩ = some (.bool t109) := (blk_cell BK112.out 5).trans rfl; have hcz42_6 : w41.cell? ⟨gb112, 6, none⟩ = some (.string t110) := (blk_cell BK112.out 6).trans rfl; have hfz42_0 := blk_frozen BK112.out 0; have hfz42_1 := blk_frozen BK112.out 1; have hfz42_2 := blk_frozen BK112.out 2; have hfz42_3 := blk_frozen BK112.out 3; have hfz42_4 := blk_frozen BK112.out 4; have hfz42_5 := blk_frozen BK112.out 5; have hfz42_6 := blk_frozen BK112.out 6) | (go_at_call 11; (refine (tattlerref07_Same.calls t102 _ _ t103 t106 t107 t108 t109 t110 8 _ _ ([] : List ByteArray) 0 0 (⟨#[]⟩ : ByteArray) false t110 true _ ?side1 ?side2 ?side3 ?side4 A34.out).mono ?_); (case side1 => repeat (first | exact (Kd.Q_reads' HO_113001.out).2.2 | (with_reducible refine Kd.C_alloc ?_ _) | (with_reducible refine Kd.C_drewN ?_ _) | (with_reducible refine Kd.C_drew ?_))); (case side2 => exact (Kd.Q_reads' HO_113001.out).2.1); (case side3 => exact Kd.C_nil _ _); (case side4 => exact Nat.le_refl _); rintro e w43 ⟨rfl, hb⟩; have n0_ := Aside0.mk (Kd.Q_below (by (with_reducible repeat (first | apply Kd.Q_alloc | apply Kd.Q_drewN | apply Kd.Q_drew)); exact HO_113001.out) hb); have n1_ := Aside0.mk (blk_below (g := gb112) (o := .cells #[.int .i64 t102, .slice Ao9 t103.length co9, .int .u32 t106, .int .i64 t107, .string t108, .bool t109, .string t110] 26 (0, 0)) (by (with_reducible repeat (first | refine blk_drewN ?_ _ | refine blk_drew ?_ | refine blk_alloc ?_ _)); exact BK112.out) hb); have n2_ := Aside0.mk (below_step (by repeat (first | (with_reducible first | exact HB.out | apply below_alloc | apply pw_below_drewN | apply below_drew1 | refine below_set ?_ GE112.out) | exact HB.out)) hb); clear HO_113001; clear BK112; clear HB; have HO_113001 := n0_; have BK112 := n1_; have HB := n2_; clear n0_ n1_ n2_; (try clear hb); (try clear hb2); (try clear hk); (try clear hi); have hcz44_0 : w43.cell? ⟨gb112, 0, none⟩ = some (.int .i64 t102) := (blk_cell BK112.out 0).trans rfl; have hcz44_1 : w43.cell? ⟨gb112, 1, none⟩ = some (.slice Ao9 t103.length co9) := (blk_cell BK112.out 1).trans rfl; have hcz44_2 : w43.cell? ⟨gb112, 2, none⟩ = some (.int .u32 t106) := (blk_cell BK112.out 2).trans rfl; have hcz44_3 : w43.cell? ⟨gb112, 3, none⟩ = some (.int .i64 t107) := (blk_cell BK112.out 3).trans rfl; have hcz44_4 : w43.cell? ⟨gb112, 4, none⟩ = some (.string t108) := (blk_cell BK112.out 4).trans rfl; have hcz44_5 : w43.cell? ⟨gb112, 5, none⟩ = some (.bool t109) := (blk_cell BK112.out 5).trans rfl; have hcz44_6 : w43.cell? ⟨gb112, 6, none⟩ = some (.string t110) := (blk_cell BK112.out 6).trans rfl; have hfz44_0 := blk_frozen BK112.out 0; have hfz44_1 := blk_frozen BK112.out 1; have hfz44_2 := blk_frozen BK112.out 2; have hfz44_3 := blk_frozen BK112.out 3; have hfz44_4 := blk_frozen BK112.out 4; have hfz44_5 := blk_frozen BK112.out 5; have hfz44_6 := blk_frozen BK112.out 6))
                            go_ret
                            exact ⟨by first | rfl | (simp [errW_none, errW_some] <;> rfl) | (simp only [← hji37]; first | rfl | (simp [errW_none, errW_some] <;> rfl)) | (simp [*, errW_none, errW_some] <;> rfl), by repeat (first | (with_reducible first | exact HB.out | apply below_alloc | apply pw_below_drewN | apply below_drew1 | refine below_set ?_ GE112.out) | exact HB.out)⟩
                          · rw [if_neg c39] at H
                            exact absurd H (by simp)
                        · rw [if_neg c38] at H
                          exact absurd H (by simp)
                      · rw [if_neg c36] at H
                        have c36b0 : decide (2 < (t110.size : Int)) = false := decide_eq_false c36
                        have c36b1 : decide (2 < t110.size) = false := decide_eq_false (by omega)
                        clear c36
                        obtain rfl := Option.some.inj H
                        have hcz45_0 : wc.cell? ⟨gb112, 0, none⟩ = some (.int .i64 t102) := (blk_cell BK112.out 0).trans rfl
                        have hcz45_1 : wc.cell? ⟨gb112, 1, none⟩ = some (.slice Ao9 t103.length co9) := (blk_cell BK112.out 1).trans rfl
                        have hcz45_2 : wc.cell? ⟨gb112, 2, none⟩ = some (.int .u32 t106) := (blk_cell BK112.out 2).trans rfl
                        have hcz45_3 : wc.cell? ⟨gb112, 3, none⟩ = some (.int .i64 t107) := (blk_cell BK112.out 3).trans rfl
                        have hcz45_4 : wc.cell? ⟨gb112, 4, none⟩ = some (.string t108) := (blk_cell BK112.out 4).trans rfl
                        have hcz45_5 : wc.cell? ⟨gb112, 5, none⟩ = some (.bool t109) := (blk_cell BK112.out 5).trans rfl
                        have hcz45_6 : wc.cell? ⟨gb112, 6, none⟩ = some (.string t110) := (blk_cell BK112.out 6).trans rfl
                        have hfz45_0 := blk_frozen BK112.out 0
                        have hfz45_1 := blk_frozen BK112.out 1
                        have hfz45_2 := blk_frozen BK112.out 2
                        have hfz45_3 := blk_frozen BK112.out 3
                        have hfz45_4 := blk_frozen BK112.out 4
                        have hfz45_5 := blk_frozen BK112.out 5
                        have hfz45_6 := blk_frozen BK112.out 6
                        go_wp2_with (first | ((with_reducible refine gate_callee (f := 8) rfl ?_); refine goesL_ (some 69) rfl rfl Tryd.func8 (by kernel_rfl) rfl #[] rfl (by (try simp only [List.map_toArray, List.map_cons, List.map_nil]); first | done | rfl | (simp only [List.length_drop, List.length_take]; rfl)) ?_; (with_reducible refine (tattlerlaw07_fixed.calls  true _ A32.out).mono ?_); rintro e w46 ⟨rfl, hb⟩; refine ⟨_, rfl, ?_⟩; have n0_ := Aside0.mk (Kd.Q_below (by (with_reducible repeat (first | apply Kd.Q_alloc | apply Kd.Q_drewN | apply Kd.Q_drew)); exact HO_113001.out) hb); have n1_ := Aside0.mk (blk_below (g := gb112) (o := .cells #[.int .i64 t102, .slice Ao9 t103.length co9, .int .u32 t106, .int .i64 t107, .string t108, .bool t109, .string t110] 26 (0, 0)) (by (with_reducible repeat (first | refine blk_drewN ?_ _ | refine blk_drew ?_ | refine blk_alloc ?_ _)); exact BK112.out) hb); have n2_ := Aside0.mk (below_step (by repeat (first | (with_reducible first | exact HB.out | apply below_alloc | apply pw_below_drewN | apply below_drew1 | refine below_set ?_ GE112.out) | exact HB.out)) hb); clear HO_113001; clear BK112; clear HB; have HO_113001 := n0_; have BK112 := n1_; have HB := n2_; clear n0_ n1_ n2_; (try clear hb); (try clear hb2); (try clear hk); (try clear hi); have hcz47_0 : w46.cell? ⟨gb112, 0, none⟩ = some (.int .i64 t102) := (blk_cell BK112.out 0).trans rfl; have hcz47_1 : w46.cell? ⟨gb112, 1, none⟩ = some (.slice Ao9 t103.length co9) := (blk_cell BK112.out 1).trans rfl; have hcz47_2 : w46.cell? ⟨gb112, 2, none⟩ = some (.int .u32 t106) := (blk_cell BK112.out 2).trans rfl; have hcz47_3 : w46.cell? ⟨gb112, 3, none⟩ = some (.int .i64 t107) := (blk_cell BK112.out 3).trans rfl; have hcz47_4 : w46.cell? ⟨gb112, 4, none⟩ = some (.string t108) := (blk_cell BK112.out 4).trans rfl; have hcz47_5 : w46.cell? ⟨gb112, 5, none⟩ = some (.bool t109) := (blk_cell BK112.out 5).trans rfl; have hcz47_6 : w46.cell? ⟨gb112, 6, none⟩ = some (.string t110) := (blk_cell BK112.out 6).trans rfl; have hfz47_0 := blk_frozen BK112.out 0; have hfz47_1 := blk_frozen BK112.out 1; have hfz47_2 := blk_frozen BK112.out 2; have hfz47_3 := blk_frozen BK112.out 3; have hfz47_4 := blk_frozen BK112.out 4; have hfz47_5 := blk_frozen BK112.out 5; have hfz47_6 := blk_frozen BK112.out 6) | (go_at_call 11; (refine (tattlerref07_Same.calls t102 _ _ t103 t106 t107 t108 t109 t110 8 _ _ ([] : List ByteArray) 0 0 (⟨#[]⟩ : ByteArray) false t110 true _ ?side1 ?side2 ?side3 ?side4 A34.out).mono ?_); (case side1 => repeat (first | exact (Kd.Q_reads' HO_113001.out).2.2 | (with_reducible refine Kd.C_alloc ?_ _) | (with_reducible refine Kd.C_drewN ?_ _) | (with_reducible refine Kd.C_drew ?_))); (case side2 => exact (Kd.Q_reads' HO_113001.out).2.1); (case side3 => exact Kd.C_nil _ _); (case side4 => exact Nat.le_refl _); rintro e w48 ⟨rfl, hb⟩; have n0_ := Aside0.mk (Kd.Q_below (by (with_reducible repeat (first | apply Kd.Q_alloc | apply Kd.Q_drewN | apply Kd.Q_drew)); exact HO_113001.out) hb); have n1_ := Aside0.mk (blk_below (g := gb112) (o := .cells #[.int .i64 t102, .slice Ao9 t103.length co9, .int .u32 t106, .int .i64 t107, .string t108, .bool t109, .string t110] 26 (0, 0)) (by (with_reducible repeat (first | refine blk_drewN ?_ _ | refine blk_drew ?_ | refine blk_alloc ?_ _)); exact BK112.out) hb); have n2_ := Aside0.mk (below_step (by repeat (first | (with_reducible first | exact HB.out | apply below_alloc | apply pw_below_drewN | apply below_drew1 | refine below_set ?_ GE112.out) | exact HB.out)) hb); clear HO_113001; clear BK112; clear HB; have HO_113001 := n0_; have BK112 := n1_; have HB := n2_; clear n0_ n1_ n2_; (try clear hb); (try clear hb2); (try clear hk); (try clear hi); have hcz49_0 : w48.cell? ⟨gb112, 0, none⟩ = some (.int .i64 t102) := (blk_cell BK112.out 0).trans rfl; have hcz49_1 : w48.cell? ⟨gb112, 1, none⟩ = some (.slice Ao9 t103.length co9) := (blk_cell BK112.out 1).trans rfl; have hcz49_2 : w48.cell? ⟨gb112, 2, none⟩ = some (.int .u32 t106) := (blk_cell BK112.out 2).trans rfl; have hcz49_3 : w48.cell? ⟨gb112, 3, none⟩ = some (.int .i64 t107) := (blk_cell BK112.out 3).trans rfl; have hcz49_4 : w48.cell? ⟨gb112, 4, none⟩ = some (.string t108) := (blk_cell BK112.out 4).trans rfl; have hcz49_5 : w48.cell? ⟨gb112, 5, none⟩ = some (.bool t109) := (blk_cell BK112.out 5).trans rfl; have hcz49_6 : w48.cell? ⟨gb112, 6, none⟩ = some (.string t110) := (blk_cell BK112.out 6).trans rfl; have hfz49_0 := blk_frozen BK112.out 0; have hfz49_1 := blk_frozen BK112.out 1; have hfz49_2 := blk_frozen BK112.out 2; have hfz49_3 := blk_frozen BK112.out 3; have hfz49_4 := blk_frozen BK112.out 4; have hfz49_5 := blk_frozen BK112.out 5; have hfz49_6 := blk_frozen BK112.out 6))
                        go_ret
                        exact ⟨by first | rfl | (simp [errW_none, errW_some] <;> rfl) | (simp [*, errW_none, errW_some] <;> rfl), by repeat (first | (with_reducible first | exact HB.out | apply below_alloc | apply pw_below_drewN | apply below_drew1 | refine below_set ?_ GE112.out) | exact HB.out)⟩
                    · replace c35 := Bool.eq_false_iff.mpr c35
                      subst c35
                      have H1 : (some false) = some r := by rw [if_neg (show ¬ (false = true) by decide)] at H; exact H
                      clear H
                      have H := H1
                      clear H1
                      obtain rfl := Option.some.inj H
                      have hcz50_0 : wc.cell? ⟨gb112, 0, none⟩ = some (.int .i64 t102) := (blk_cell BK112.out 0).trans rfl
                      have hcz50_1 : wc.cell? ⟨gb112, 1, none⟩ = some (.slice Ao9 t103.length co9) := (blk_cell BK112.out 1).trans rfl
                      have hcz50_2 : wc.cell? ⟨gb112, 2, none⟩ = some (.int .u32 t106) := (blk_cell BK112.out 2).trans rfl
                      have hcz50_3 : wc.cell? ⟨gb112, 3, none⟩ = some (.int .i64 t107) := (blk_cell BK112.out 3).trans rfl
                      have hcz50_4 : wc.cell? ⟨gb112, 4, none⟩ = some (.string t108) := (blk_cell BK112.out 4).trans rfl
                      have hcz50_5 : wc.cell? ⟨gb112, 5, none⟩ = some (.bool t109) := (blk_cell BK112.out 5).trans rfl
                      have hcz50_6 : wc.cell? ⟨gb112, 6, none⟩ = some (.string t110) := (blk_cell BK112.out 6).trans rfl
                      have hfz50_0 := blk_frozen BK112.out 0
                      have hfz50_1 := blk_frozen BK112.out 1
                      have hfz50_2 := blk_frozen BK112.out 2
                      have hfz50_3 := blk_frozen BK112.out 3
                      have hfz50_4 := blk_frozen BK112.out 4
                      have hfz50_5 := blk_frozen BK112.out 5
                      have hfz50_6 := blk_frozen BK112.out 6
                      go_wp2_with (first | ((with_reducible refine gate_callee (f := 8) rfl ?_); refine goesL_ (some 69) rfl rfl Tryd.func8 (by kernel_rfl) rfl #[] rfl (by (try simp only [List.map_toArray, List.map_cons, List.map_nil]); first | done | rfl | (simp only [List.length_drop, List.length_take]; rfl)) ?_; (with_reducible refine (tattlerlaw07_fixed.calls  true _ A32.out).mono ?_); rintro e w51 ⟨rfl, hb⟩; refine ⟨_, rfl, ?_⟩; have n0_ := Aside0.mk (Kd.Q_below (by (with_reducible repeat (first | apply Kd.Q_alloc | apply Kd.Q_drewN | apply Kd.Q_drew)); exact HO_113001.out) hb); have n1_ := Aside0.mk (blk_below (g := gb112) (o := .cells #[.int .i64 t102, .slice Ao9 t103.length co9, .int .u32 t106, .int .i64 t107, .string t108, .bool t109, .string t110] 26 (0, 0)) (by (with_reducible repeat (first | refine blk_drewN ?_ _ | refine blk_drew ?_ | refine blk_alloc ?_ _)); exact BK112.out) hb); have n2_ := Aside0.mk (below_step (by repeat (first | (with_reducible first | exact HB.out | apply below_alloc | apply pw_below_drewN | apply below_drew1 | refine below_set ?_ GE112.out) | exact HB.out)) hb); clear HO_113001; clear BK112; clear HB; have HO_113001 := n0_; have BK112 := n1_; have HB := n2_; clear n0_ n1_ n2_; (try clear hb); (try clear hb2); (try clear hk); (try clear hi); have hcz52_0 : w51.cell? ⟨gb112, 0, none⟩ = some (.int .i64 t102) := (blk_cell BK112.out 0).trans rfl; have hcz52_1 : w51.cell? ⟨gb112, 1, none⟩ = some (.slice Ao9 t103.length co9) := (blk_cell BK112.out 1).trans rfl; have hcz52_2 : w51.cell? ⟨gb112, 2, none⟩ = some (.int .u32 t106) := (blk_cell BK112.out 2).trans rfl; have hcz52_3 : w51.cell? ⟨gb112, 3, none⟩ = some (.int .i64 t107) := (blk_cell BK112.out 3).trans rfl; have hcz52_4 : w51.cell? ⟨gb112, 4, none⟩ = some (.string t108) := (blk_cell BK112.out 4).trans rfl; have hcz52_5 : w51.cell? ⟨gb112, 5, none⟩ = some (.bool t109) := (blk_cell BK112.out 5).trans rfl; have hcz52_6 : w51.cell? ⟨gb112, 6, none⟩ = some (.string t110) := (blk_cell BK112.out 6).trans rfl; have hfz52_0 := blk_frozen BK112.out 0; have hfz52_1 := blk_frozen BK112.out 1; have hfz52_2 := blk_frozen BK112.out 2; have hfz52_3 := blk_frozen BK112.out 3; have hfz52_4 := blk_frozen BK112.out 4; have hfz52_5 := blk_frozen BK112.out 5; have hfz52_6 := blk_frozen BK112.out 6) | (go_at_call 11; (refine (tattlerref07_Same.calls t102 _ _ t103 t106 t107 t108 t109 t110 8 _ _ ([] : List ByteArray) 0 0 (⟨#[]⟩ : ByteArray) false t110 false _ ?side1 ?side2 ?side3 ?side4 A34.out).mono ?_); (case side1 => repeat (first | exact (Kd.Q_reads' HO_113001.out).2.2 | (with_reducible refine Kd.C_alloc ?_ _) | (with_reducible refine Kd.C_drewN ?_ _) | (with_reducible refine Kd.C_drew ?_))); (case side2 => exact (Kd.Q_reads' HO_113001.out).2.1); (case side3 => exact Kd.C_nil _ _); (case side4 => exact Nat.le_refl _); rintro e w53 ⟨rfl, hb⟩; have n0_ := Aside0.mk (Kd.Q_below (by (with_reducible repeat (first | apply Kd.Q_alloc | apply Kd.Q_drewN | apply Kd.Q_drew)); exact HO_113001.out) hb); have n1_ := Aside0.mk (blk_below (g := gb112) (o := .cells #[.int .i64 t102, .slice Ao9 t103.length co9, .int .u32 t106, .int .i64 t107, .string t108, .bool t109, .string t110] 26 (0, 0)) (by (with_reducible repeat (first | refine blk_drewN ?_ _ | refine blk_drew ?_ | refine blk_alloc ?_ _)); exact BK112.out) hb); have n2_ := Aside0.mk (below_step (by repeat (first | (with_reducible first | exact HB.out | apply below_alloc | apply pw_below_drewN | apply below_drew1 | refine below_set ?_ GE112.out) | exact HB.out)) hb); clear HO_113001; clear BK112; clear HB; have HO_113001 := n0_; have BK112 := n1_; have HB := n2_; clear n0_ n1_ n2_; (try clear hb); (try clear hb2); (try clear hk); (try clear hi)))
                      go_ret
                      exact ⟨by first | rfl | (simp [errW_none, errW_some] <;> rfl) | (simp [*, errW_none, errW_some] <;> rfl), by repeat (first | (with_reducible first | exact HB.out | apply below_alloc | apply pw_below_drewN | apply below_drew1 | refine below_set ?_ GE112.out) | exact HB.out)⟩
                  · replace c33 := Bool.eq_false_iff.mpr c33
                    subst c33
                    have H1 : (some false) = some r := by rw [if_neg (show ¬ (false = true) by decide)] at H; exact H
                    clear H
                    have H := H1
                    clear H1
                    obtain rfl := Option.some.inj H
                    have hcz54_0 : wc.cell? ⟨gb112, 0, none⟩ = some (.int .i64 t102) := (blk_cell BK112.out 0).trans rfl
                    have hcz54_1 : wc.cell? ⟨gb112, 1, none⟩ = some (.slice Ao9 t103.length co9) := (blk_cell BK112.out 1).trans rfl
                    have hcz54_2 : wc.cell? ⟨gb112, 2, none⟩ = some (.int .u32 t106) := (blk_cell BK112.out 2).trans rfl
                    have hcz54_3 : wc.cell? ⟨gb112, 3, none⟩ = some (.int .i64 t107) := (blk_cell BK112.out 3).trans rfl
                    have hcz54_4 : wc.cell? ⟨gb112, 4, none⟩ = some (.string t108) := (blk_cell BK112.out 4).trans rfl
                    have hcz54_5 : wc.cell? ⟨gb112, 5, none⟩ = some (.bool t109) := (blk_cell BK112.out 5).trans rfl
                    have hcz54_6 : wc.cell? ⟨gb112, 6, none⟩ = some (.string t110) := (blk_cell BK112.out 6).trans rfl
                    have hfz54_0 := blk_frozen BK112.out 0
                    have hfz54_1 := blk_frozen BK112.out 1
                    have hfz54_2 := blk_frozen BK112.out 2
                    have hfz54_3 := blk_frozen BK112.out 3
                    have hfz54_4 := blk_frozen BK112.out 4
                    have hfz54_5 := blk_frozen BK112.out 5
                    have hfz54_6 := blk_frozen BK112.out 6
                    go_wp2_with (first | ((with_reducible refine gate_callee (f := 8) rfl ?_); refine goesL_ (some 69) rfl rfl Tryd.func8 (by kernel_rfl) rfl #[] rfl (by (try simp only [List.map_toArray, List.map_cons, List.map_nil]); first | done | rfl | (simp only [List.length_drop, List.length_take]; rfl)) ?_; (with_reducible refine (tattlerlaw07_fixed.calls  false _ A32.out).mono ?_); rintro e w55 ⟨rfl, hb⟩; refine ⟨_, rfl, ?_⟩; have n0_ := Aside0.mk (Kd.Q_below (by (with_reducible repeat (first | apply Kd.Q_alloc | apply Kd.Q_drewN | apply Kd.Q_drew)); exact HO_113001.out) hb); have n1_ := Aside0.mk (blk_below (g := gb112) (o := .cells #[.int .i64 t102, .slice Ao9 t103.length co9, .int .u32 t106, .int .i64 t107, .string t108, .bool t109, .string t110] 26 (0, 0)) (by (with_reducible repeat (first | refine blk_drewN ?_ _ | refine blk_drew ?_ | refine blk_alloc ?_ _)); exact BK112.out) hb); have n2_ := Aside0.mk (below_step (by repeat (first | (with_reducible first | exact HB.out | apply below_alloc | apply pw_below_drewN | apply below_drew1 | refine below_set ?_ GE112.out) | exact HB.out)) hb); clear HO_113001; clear BK112; clear HB; have HO_113001 := n0_; have BK112 := n1_; have HB := n2_; clear n0_ n1_ n2_; (try clear hb); (try clear hb2); (try clear hk); (try clear hi)))
                    go_ret
                    exact ⟨by first | rfl | (simp [errW_none, errW_some] <;> rfl) | (simp [*, errW_none, errW_some] <;> rfl), by repeat (first | (with_reducible first | exact HB.out | apply below_alloc | apply pw_below_drewN | apply below_drew1 | refine below_set ?_ GE112.out) | exact HB.out)⟩
                · rw [if_neg c31] at H
                  have c31b0 : (t102 == 8) = false := beq_eq_false_iff_ne.mpr c31
                  have c31b1 : (t102 != 8) = true := bne_iff_ne.mpr c31
                  replace H := Option.bind_eq_some_iff.mp H
                  obtain ⟨t117, A560, H⟩ := H
                  replace H : (if t117 = true then (if t110.toList = ([] : List UInt8) then (some (t108.toList == ([] : List UInt8))) else (some false)) else (some false)) = some r := H
                  have A56 := Aside0.mk A560
                  clear A560
                  by_cases c57 : t117 = true
                  · subst c57
                    have H1 : (if t110.toList = ([] : List UInt8) then (some (t108.toList == ([] : List UInt8))) else (some false)) = some r := by rw [if_pos rfl] at H; exact H
                    clear H
                    have H := H1
                    clear H1
                    by_cases c58 : t110.toList = ([] : List UInt8)
                    · rw [if_pos c58] at H
                      have c58b0 : (t110.toList == ([] : List UInt8)) = true := beq_iff_eq.mpr c58
                      have c58b1 : (t110.toList != ([] : List UInt8)) = false := bne_eq_false_iff_eq.mpr c58
                      clear c58
                      obtain rfl := Option.some.inj H
                      have hcz59_0 : wc.cell? ⟨gb112, 0, none⟩ = some (.int .i64 t102) := (blk_cell BK112.out 0).trans rfl
                      have hcz59_1 : wc.cell? ⟨gb112, 1, none⟩ = some (.slice Ao9 t103.length co9) := (blk_cell BK112.out 1).trans rfl
                      have hcz59_2 : wc.cell? ⟨gb112, 2, none⟩ = some (.int .u32 t106) := (blk_cell BK112.out 2).trans rfl
                      have hcz59_3 : wc.cell? ⟨gb112, 3, none⟩ = some (.int .i64 t107) := (blk_cell BK112.out 3).trans rfl
                      have hcz59_4 : wc.cell? ⟨gb112, 4, none⟩ = some (.string t108) := (blk_cell BK112.out 4).trans rfl
                      have hcz59_5 : wc.cell? ⟨gb112, 5, none⟩ = some (.bool t109) := (blk_cell BK112.out 5).trans rfl
                      have hcz59_6 : wc.cell? ⟨gb112, 6, none⟩ = some (.string t110) := (blk_cell BK112.out 6).trans rfl
                      have hfz59_0 := blk_frozen BK112.out 0
                      have hfz59_1 := blk_frozen BK112.out 1
                      have hfz59_2 := blk_frozen BK112.out 2
                      have hfz59_3 := blk_frozen BK112.out 3
                      have hfz59_4 := blk_frozen BK112.out 4
                      have hfz59_5 := blk_frozen BK112.out 5
                      have hfz59_6 := blk_frozen BK112.out 6
                      go_wp2_with (first | ((with_reducible refine gate_callee (f := 8) rfl ?_); refine goesL_ (some 93) rfl rfl Tryd.func8 (by kernel_rfl) rfl #[] rfl (by (try simp only [List.map_toArray, List.map_cons, List.map_nil]); first | done | rfl | (simp only [List.length_drop, List.length_take]; rfl)) ?_; (with_reducible refine (tattlerlaw07_fixed.calls  true _ A56.out).mono ?_); rintro e w60 ⟨rfl, hb⟩; refine ⟨_, rfl, ?_⟩; have n0_ := Aside0.mk (Kd.Q_below (by (with_reducible repeat (first | apply Kd.Q_alloc | apply Kd.Q_drewN | apply Kd.Q_drew)); exact HO_113001.out) hb); have n1_ := Aside0.mk (blk_below (g := gb112) (o := .cells #[.int .i64 t102, .slice Ao9 t103.length co9, .int .u32 t106, .int .i64 t107, .string t108, .bool t109, .string t110] 26 (0, 0)) (by (with_reducible repeat (first | refine blk_drewN ?_ _ | refine blk_drew ?_ | refine blk_alloc ?_ _)); exact BK112.out) hb); have n2_ := Aside0.mk (below_step (by repeat (first | (with_reducible first | exact HB.out | apply below_alloc | apply pw_below_drewN | apply below_drew1 | refine below_set ?_ GE112.out) | exact HB.out)) hb); clear HO_113001; clear BK112; clear HB; have HO_113001 := n0_; have BK112 := n1_; have HB := n2_; clear n0_ n1_ n2_; (try clear hb); (try clear hb2); (try clear hk); (try clear hi); have hcz61_0 : w60.cell? ⟨gb112, 0, none⟩ = some (.int .i64 t102) := (blk_cell BK112.out 0).trans rfl; have hcz61_1 : w60.cell? ⟨gb112, 1, none⟩ = some (.slice Ao9 t103.length co9) := (blk_cell BK112.out 1).trans rfl; have hcz61_2 : w60.cell? ⟨gb112, 2, none⟩ = some (.int .u32 t106) := (blk_cell BK112.out 2).trans rfl; have hcz61_3 : w60.cell? ⟨gb112, 3, none⟩ = some (.int .i64 t107) := (blk_cell BK112.out 3).trans rfl; have hcz61_4 : w60.cell? ⟨gb112, 4, none⟩ = some (.string t108) := (blk_cell BK112.out 4).trans rfl; have hcz61_5 : w60.cell? ⟨gb112, 5, none⟩ = some (.bool t109) := (blk_cell BK112.out 5).trans rfl; have hcz61_6 : w60.cell? ⟨gb112, 6, none⟩ = some (.string t110) := (blk_cell BK112.out 6).trans rfl; have hfz61_0 := blk_frozen BK112.out 0; have hfz61_1 := blk_frozen BK112.out 1; have hfz61_2 := blk_frozen BK112.out 2; have hfz61_3 := blk_frozen BK112.out 3; have hfz61_4 := blk_frozen BK112.out 4; have hfz61_5 := blk_frozen BK112.out 5; have hfz61_6 := blk_frozen BK112.out 6))
                      go_ret
                      exact ⟨by first | rfl | (simp [errW_none, errW_some] <;> rfl) | (simp [*, errW_none, errW_some] <;> rfl), by repeat (first | (with_reducible first | exact HB.out | apply below_alloc | apply pw_below_drewN | apply below_drew1 | refine below_set ?_ GE112.out) | exact HB.out)⟩
                    · rw [if_neg c58] at H
                      have c58b0 : (t110.toList == ([] : List UInt8)) = false := beq_eq_false_iff_ne.mpr c58
                      have c58b1 : (t110.toList != ([] : List UInt8)) = true := bne_iff_ne.mpr c58
                      obtain rfl := Option.some.inj H
                      have hcz62_0 : wc.cell? ⟨gb112, 0, none⟩ = some (.int .i64 t102) := (blk_cell BK112.out 0).trans rfl
                      have hcz62_1 : wc.cell? ⟨gb112, 1, none⟩ = some (.slice Ao9 t103.length co9) := (blk_cell BK112.out 1).trans rfl
                      have hcz62_2 : wc.cell? ⟨gb112, 2, none⟩ = some (.int .u32 t106) := (blk_cell BK112.out 2).trans rfl
                      have hcz62_3 : wc.cell? ⟨gb112, 3, none⟩ = some (.int .i64 t107) := (blk_cell BK112.out 3).trans rfl
                      have hcz62_4 : wc.cell? ⟨gb112, 4, none⟩ = some (.string t108) := (blk_cell BK112.out 4).trans rfl
                      have hcz62_5 : wc.cell? ⟨gb112, 5, none⟩ = some (.bool t109) := (blk_cell BK112.out 5).trans rfl
                      have hcz62_6 : wc.cell? ⟨gb112, 6, none⟩ = some (.string t110) := (blk_cell BK112.out 6).trans rfl
                      have hfz62_0 := blk_frozen BK112.out 0
                      have hfz62_1 := blk_frozen BK112.out 1
                      have hfz62_2 := blk_frozen BK112.out 2
                      have hfz62_3 := blk_frozen BK112.out 3
                      have hfz62_4 := blk_frozen BK112.out 4
                      have hfz62_5 := blk_frozen BK112.out 5
                      have hfz62_6 := blk_frozen BK112.out 6
                      go_wp2_with (first | ((with_reducible refine gate_callee (f := 8) rfl ?_); refine goesL_ (some 93) rfl rfl Tryd.func8 (by kernel_rfl) rfl #[] rfl (by (try simp only [List.map_toArray, List.map_cons, List.map_nil]); first | done | rfl | (simp only [List.length_drop, List.length_take]; rfl)) ?_; (with_reducible refine (tattlerlaw07_fixed.calls  true _ A56.out).mono ?_); rintro e w63 ⟨rfl, hb⟩; refine ⟨_, rfl, ?_⟩; have n0_ := Aside0.mk (Kd.Q_below (by (with_reducible repeat (first | apply Kd.Q_alloc | apply Kd.Q_drewN | apply Kd.Q_drew)); exact HO_113001.out) hb); have n1_ := Aside0.mk (blk_below (g := gb112) (o := .cells #[.int .i64 t102, .slice Ao9 t103.length co9, .int .u32 t106, .int .i64 t107, .string t108, .bool t109, .string t110] 26 (0, 0)) (by (with_reducible repeat (first | refine blk_drewN ?_ _ | refine blk_drew ?_ | refine blk_alloc ?_ _)); exact BK112.out) hb); have n2_ := Aside0.mk (below_step (by repeat (first | (with_reducible first | exact HB.out | apply below_alloc | apply pw_below_drewN | apply below_drew1 | refine below_set ?_ GE112.out) | exact HB.out)) hb); clear HO_113001; clear BK112; clear HB; have HO_113001 := n0_; have BK112 := n1_; have HB := n2_; clear n0_ n1_ n2_; (try clear hb); (try clear hb2); (try clear hk); (try clear hi); have hcz64_0 : w63.cell? ⟨gb112, 0, none⟩ = some (.int .i64 t102) := (blk_cell BK112.out 0).trans rfl; have hcz64_1 : w63.cell? ⟨gb112, 1, none⟩ = some (.slice Ao9 t103.length co9) := (blk_cell BK112.out 1).trans rfl; have hcz64_2 : w63.cell? ⟨gb112, 2, none⟩ = some (.int .u32 t106) := (blk_cell BK112.out 2).trans rfl; have hcz64_3 : w63.cell? ⟨gb112, 3, none⟩ = some (.int .i64 t107) := (blk_cell BK112.out 3).trans rfl; have hcz64_4 : w63.cell? ⟨gb112, 4, none⟩ = some (.string t108) := (blk_cell BK112.out 4).trans rfl; have hcz64_5 : w63.cell? ⟨gb112, 5, none⟩ = some (.bool t109) := (blk_cell BK112.out 5).trans rfl; have hcz64_6 : w63.cell? ⟨gb112, 6, none⟩ = some (.string t110) := (blk_cell BK112.out 6).trans rfl; have hfz64_0 := blk_frozen BK112.out 0; have hfz64_1 := blk_frozen BK112.out 1; have hfz64_2 := blk_frozen BK112.out 2; have hfz64_3 := blk_frozen BK112.out 3; have hfz64_4 := blk_frozen BK112.out 4; have hfz64_5 := blk_frozen BK112.out 5; have hfz64_6 := blk_frozen BK112.out 6))
                      go_ret
                      exact ⟨by first | rfl | (simp [errW_none, errW_some] <;> rfl) | (simp [*, errW_none, errW_some] <;> rfl), by repeat (first | (with_reducible first | exact HB.out | apply below_alloc | apply pw_below_drewN | apply below_drew1 | refine below_set ?_ GE112.out) | exact HB.out)⟩
                  · replace c57 := Bool.eq_false_iff.mpr c57
                    subst c57
                    have H1 : (some false) = some r := by rw [if_neg (show ¬ (false = true) by decide)] at H; exact H
                    clear H
                    have H := H1
                    clear H1
                    obtain rfl := Option.some.inj H
                    have hcz65_0 : wc.cell? ⟨gb112, 0, none⟩ = some (.int .i64 t102) := (blk_cell BK112.out 0).trans rfl
                    have hcz65_1 : wc.cell? ⟨gb112, 1, none⟩ = some (.slice Ao9 t103.length co9) := (blk_cell BK112.out 1).trans rfl
                    have hcz65_2 : wc.cell? ⟨gb112, 2, none⟩ = some (.int .u32 t106) := (blk_cell BK112.out 2).trans rfl
                    have hcz65_3 : wc.cell? ⟨gb112, 3, none⟩ = some (.int .i64 t107) := (blk_cell BK112.out 3).trans rfl
                    have hcz65_4 : wc.cell? ⟨gb112, 4, none⟩ = some (.string t108) := (blk_cell BK112.out 4).trans rfl
                    have hcz65_5 : wc.cell? ⟨gb112, 5, none⟩ = some (.bool t109) := (blk_cell BK112.out 5).trans rfl
                    have hcz65_6 : wc.cell? ⟨gb112, 6, none⟩ = some (.string t110) := (blk_cell BK112.out 6).trans rfl
                    have hfz65_0 := blk_frozen BK112.out 0
                    have hfz65_1 := blk_frozen BK112.out 1
                    have hfz65_2 := blk_frozen BK112.out 2
                    have hfz65_3 := blk_frozen BK112.out 3
                    have hfz65_4 := blk_frozen BK112.out 4
                    have hfz65_5 := blk_frozen BK112.out 5
                    have hfz65_6 := blk_frozen BK112.out 6
                    go_wp2_with (first | ((with_reducible refine gate_callee (f := 8) rfl ?_); refine goesL_ (some 93) rfl rfl Tryd.func8 (by kernel_rfl) rfl #[] rfl (by (try simp only [List.map_toArray, List.map_cons, List.map_nil]); first | done | rfl | (simp only [List.length_drop, List.length_take]; rfl)) ?_; (with_reducible refine (tattlerlaw07_fixed.calls  false _ A56.out).mono ?_); rintro e w66 ⟨rfl, hb⟩; refine ⟨_, rfl, ?_⟩; have n0_ := Aside0.mk (Kd.Q_below (by (with_reducible repeat (first | apply Kd.Q_alloc | apply Kd.Q_drewN | apply Kd.Q_drew)); exact HO_113001.out) hb); have n1_ := Aside0.mk (blk_below (g := gb112) (o := .cells #[.int .i64 t102, .slice Ao9 t103.length co9, .int .u32 t106, .int .i64 t107, .string t108, .bool t109, .string t110] 26 (0, 0)) (by (with_reducible repeat (first | refine blk_drewN ?_ _ | refine blk_drew ?_ | refine blk_alloc ?_ _)); exact BK112.out) hb); have n2_ := Aside0.mk (below_step (by repeat (first | (with_reducible first | exact HB.out | apply below_alloc | apply pw_below_drewN | apply below_drew1 | refine below_set ?_ GE112.out) | exact HB.out)) hb); clear HO_113001; clear BK112; clear HB; have HO_113001 := n0_; have BK112 := n1_; have HB := n2_; clear n0_ n1_ n2_; (try clear hb); (try clear hb2); (try clear hk); (try clear hi)))
                    go_ret
                    exact ⟨by first | rfl | (simp [errW_none, errW_some] <;> rfl) | (simp [*, errW_none, errW_some] <;> rfl), by repeat (first | (with_reducible first | exact HB.out | apply below_alloc | apply pw_below_drewN | apply below_drew1 | refine below_set ?_ GE112.out) | exact HB.out)⟩

/-- THE ONE PURE STATEMENT of tattlerlaw07_CmdRight: yours. -/
def tattlerlaw07_CmdRight.Pure : Prop := ∀ (a0 : ByteArray), a0.size ≤ 140737488351232 → ∃ k, tattlerlaw07_CmdRight.f k a0 = some true
theorem tattlerlaw07_CmdRight.walk (P : tattlerlaw07_CmdRight.Pure) (a0 : ByteArray) (w : World) (w0 : a0.size ≤ 140737488351232) :
    Calls Tryd.prog 5 #[.string a0] w fun e w' => e = .returned (.bool true) ∧ Below w.heap.size w w' := by
  obtain ⟨k, h⟩ := P a0 w0
  refine (tattlerlaw07_CmdRight.calls k a0 true w h).mono ?_
  rintro e w' ⟨rfl, hd⟩
  exact ⟨rfl, hd⟩

end Go.Proofs.YtpfggidfcbgaiaaDoor.PCmdRight

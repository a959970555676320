/- say.Items and say.Stats: a builder written in a loop (own text; written by wip/tools/gen_sayitems.py). -/
import Derived.Test.YtbgoedhpndflpaaDoorSayP0
namespace Go.Proofs.YtbgoedhpndflpaaDoor.Say
open Go.RowKit Go.Proofs.YtbgoedhpndflpaaDoorW.PrintWords Go.Proofs.YtbgoedhpndflpaaDoorW.PrintLast Go.Proofs.YtbgoedhpndflpaaDoorW.PrintMore Go.Proofs.YtbgoedhpndflpaaDoor.PSay
set_option linter.unusedVariables false
set_option linter.unusedSimpArgs false
theorem below_from {w w1 w2 : World} (h : Below w.heap.size w w1) (k : Below w.heap.size w1 w2) : Below w.heap.size w w2 :=
  ⟨k.os.trans h.os, k.tape.trans h.tape, k.output.trans h.output, Nat.le_trans h.size k.size, fun i hi => (k.block i hi).trans (h.block i hi)⟩
set_option maxRecDepth 100000 in
set_option maxHeartbeats 8000000 in
theorem items_c (A : Option Addr) (c : Nat) (l : List S30) (w : World) (hr : Kd.C k30 w A l.length l) (hc : l.length ≤ c) (hT : Tab w) (hn : l.length ≤ 200) (hs : ∀ x, x ∈ l → SzI x) :
    Calls Tryd.prog 9 #[.slice A l.length c] w fun e w' => e = .returned (.string (itemsB l)) ∧ Below w.heap.size w w' := by
  have HR0 := Lib.hid hr
  have HT := Lib.hid hT
  have HS := Lib.hid hs
  have HN := Lib.hid hn
  have hu30 := Tryd.underlying30
  have hl9 : (l.length : Int) ≤ 200 := by omega
  clear hr hT hs hn
  obtain ⟨n, hnn⟩ : ∃ n, n = l.length := ⟨_, rfl⟩
  rw [← hnn] at hc hl9 ⊢
  have HNN := Lib.hid hnn
  clear hnn
  go_enter Tryd.func9, Tryd.ntmps9
  go_upto_region 2 with (fail)
  have HD := Lib.hid (build_new w)
  have HB := Lib.hid (below_alloc (Below.refl w.heap.size w) (.cells #[.pointer none, .slice none 0 0] 49))
  generalize w.alloc (.cells #[.pointer none, .slice none 0 0] 49) = w1 at *
  go_wp2_with (fail)
  go_loopw [8] (fun v8 w' => ∃ (i : Nat) (y : Int), i ≤ n ∧ v8 = .int .i64 y ∧ Hid (y = (i : Int)) ∧ Hid (Lib.IsBuilderF 49 5 w.heap.size w.heap.size (Lib.byteCells (itemsL (l.take i))) w') ∧ Hid (Below w.heap.size w w')) (fun v _ => n - (intOf v).toNat)
  case atStart => exact ⟨0, 0, Nat.zero_le _, rfl, Lib.hid rfl, HD, HB⟩
  case round =>
    clear HD HB
    obtain ⟨i, y, hi, rfl, HY, HD, HB⟩ := hrel
    by_cases hlt : i < n
    · have hil : i < l.length := by rw [← HNN.out]; exact hlt
      have p157 : 0 ≤ y := by have := HY.out; omega
      have q157 : y < (n : Int) := by have := HY.out; omega
      have vj : IntKind.i64.wrap (y + 1) = y + 1 := IntWalk.i64_in _ ⟨by omega, by omega⟩
      obtain ⟨ad, e157, hx0, hx1, hx2, hx3, hx4, hx5, hx6, hx7⟩ := at_T30 HR0.out y p157 (by rw [← HNN.out]; exact q157)
      cases e157
      replace hx0 := (HB.out.cell (World.block_lt_of_cell? w _ hx0)).trans hx0
      replace hx1 := (HB.out.cell (World.block_lt_of_cell? w _ hx1)).trans hx1
      replace hx2 := (HB.out.cell (World.block_lt_of_cell? w _ hx2)).trans hx2
      replace hx3 := (HB.out.cell (World.block_lt_of_cell? w _ hx3)).trans hx3
      replace hx4 := (HB.out.cell (World.block_lt_of_cell? w _ hx4)).trans hx4
      replace hx5 := (HB.out.cell (World.block_lt_of_cell? w _ hx5)).trans hx5
      replace hx6 := (HB.out.cell (World.block_lt_of_cell? w _ hx6)).trans hx6
      replace hx7 := (HB.out.cell (World.block_lt_of_cell? w _ hx7)).trans hx7
      have e0 := rd_at30 l i hil
      rw [← HY.out] at e0
      have HX := Lib.hid (show SzI (rd_T30 l y) from by rw [e0]; exact HS.out _ (List.getElem_mem hil))
      have HI := Lib.hid (show itemsL (l.take (i + 1)) = itemsL (l.take i) ++ (itemB (rd_T30 l y)).data.toList from by rw [e0]; exact itemsL_snoc l i hil)
      have HL := Lib.hid (show (itemsL (l.take i)).length ≤ 200 * 7000 from by
        have h1 := itemsL_len (l.take i) (fun x hx => HS.out x (List.mem_of_mem_take hx))
        rw [List.length_take] at h1
        omega)
      clear e0 hil
      generalize rd_T30 l y = x at *
      have hq0 : (0 ≤ y) = True := eq_true p157
      have hq1 : (y < (n : Int)) = True := eq_true q157
      go_upto_region 5 with (fail)
      have AZ := Lib.hid (blk_new wr (.cells #[.string x.f0, .int .u64 x.f1.f0, .int .u32 x.f1.f1, .int .u8 x.f1.f2, .int .u8 x.f2, .int .u32 x.f3, .int .u64 x.f4, .string x.f5] 30))
      have hzb : wr.heap.size ≠ w.heap.size := by
        have h1 : w.heap.size < wr.heap.size := by rcases HD.out with h | h <;> exact h.lt
        omega
      replace HD := Lib.hid (build_below HD.out (below_alloc (Below.refl _ _) (.cells #[.string x.f0, .int .u64 x.f1.f0, .int .u32 x.f1.f1, .int .u8 x.f1.f2, .int .u8 x.f2, .int .u32 x.f3, .int .u64 x.f4, .string x.f5] 30)))
      replace HB := Lib.hid (below_step HB.out (below_alloc (Below.refl _ _) (.cells #[.string x.f0, .int .u64 x.f1.f0, .int .u32 x.f1.f1, .int .u8 x.f1.f2, .int .u8 x.f2, .int .u32 x.f3, .int .u64 x.f4, .string x.f5] 30)))
      clear hx0 hx1 hx2 hx3 hx4 hx5 hx6 hx7
      generalize wr.alloc (.cells #[.string x.f0, .int .u64 x.f1.f0, .int .u32 x.f1.f1, .int .u8 x.f1.f2, .int .u8 x.f2, .int .u32 x.f3, .int .u64 x.f4, .string x.f5] 30) = w2 at *
      generalize wr.heap.size = z at *
      have hfl := fl_eq x
      have hfl2 := fl_lt x
      have FU := Lib.hid (fun W (h : Tab W) => fmtU (flN x) hfl2 W h)
      have FI := Lib.hid (fun W (h : Tab W) => itoaN x.f5.size (by have := HX.out.2; omega) W h)
      have hd1 := decB_size (flN x) hfl2
      have hd2 := decB_size x.f5.size (by have := HX.out.2; omega)
      obtain ⟨t1, ht1⟩ : ∃ t, t = decB (flN x) := ⟨_, rfl⟩
      obtain ⟨t2, ht2⟩ : ∃ t, t = decB x.f5.size := ⟨_, rfl⟩
      rw [← ht1] at FU hd1
      rw [← ht2] at FI hd2
      have HIT := Lib.hid (show itemB x = ((((((((⟨#[86, 65, 76, 85, 69, 32]⟩ : ByteArray) ++ x.f0) ++ (⟨#[32]⟩ : ByteArray)) ++ t1) ++ (⟨#[32]⟩ : ByteArray)) ++ t2) ++ (⟨#[13, 10]⟩ : ByteArray)) ++ x.f5) ++ (⟨#[13, 10]⟩ : ByteArray) from by rw [ht1, ht2]; rfl)
      clear ht1 ht2 hfl2
      have hk0 := HX.out.1
      have hk5 := HX.out.2
      have g0 : (6 + x.f0.size ≤ 9223372036854775807) = True := eq_true (by omega)
      have h0 : (9223372036854775807 < 6 + x.f0.size) = False := eq_false (by omega)
      have m1 : ((⟨#[86, 65, 76, 85, 69, 32]⟩ : ByteArray) ++ x.f0).size = 6 + x.f0.size := by rw [ByteArray.size_append] <;> rfl
      have g1 : (((⟨#[86, 65, 76, 85, 69, 32]⟩ : ByteArray) ++ x.f0).size + 1 ≤ 9223372036854775807) = True := eq_true (by rw [m1]; omega)
      have h1 : (9223372036854775807 < 6 + x.f0.size + 1) = False := eq_false (by omega)
      have m2 : (((⟨#[86, 65, 76, 85, 69, 32]⟩ : ByteArray) ++ x.f0) ++ (⟨#[32]⟩ : ByteArray)).size = 6 + x.f0.size + 1 := by rw [ByteArray.size_append, m1] <;> rfl
      have g2 : ((((⟨#[86, 65, 76, 85, 69, 32]⟩ : ByteArray) ++ x.f0) ++ (⟨#[32]⟩ : ByteArray)).size + t1.size ≤ 9223372036854775807) = True := eq_true (by rw [m2]; omega)
      have h2 : (9223372036854775807 < 6 + x.f0.size + 1 + t1.size) = False := eq_false (by omega)
      have m3 : ((((⟨#[86, 65, 76, 85, 69, 32]⟩ : ByteArray) ++ x.f0) ++ (⟨#[32]⟩ : ByteArray)) ++ t1).size = 6 + x.f0.size + 1 + t1.size := by rw [ByteArray.size_append, m2] <;> rfl
      have g3 : (((((⟨#[86, 65, 76, 85, 69, 32]⟩ : ByteArray) ++ x.f0) ++ (⟨#[32]⟩ : ByteArray)) ++ t1).size + 1 ≤ 9223372036854775807) = True := eq_true (by rw [m3]; omega)
      have h3 : (9223372036854775807 < 6 + x.f0.size + 1 + t1.size + 1) = False := eq_false (by omega)
      have m4 : (((((⟨#[86, 65, 76, 85, 69, 32]⟩ : ByteArray) ++ x.f0) ++ (⟨#[32]⟩ : ByteArray)) ++ t1) ++ (⟨#[32]⟩ : ByteArray)).size = 6 + x.f0.size + 1 + t1.size + 1 := by rw [ByteArray.size_append, m3] <;> rfl
      have g4 : ((((((⟨#[86, 65, 76, 85, 69, 32]⟩ : ByteArray) ++ x.f0) ++ (⟨#[32]⟩ : ByteArray)) ++ t1) ++ (⟨#[32]⟩ : ByteArray)).size + t2.size ≤ 9223372036854775807) = True := eq_true (by rw [m4]; omega)
      have h4 : (9223372036854775807 < 6 + x.f0.size + 1 + t1.size + 1 + t2.size) = False := eq_false (by omega)
      have m5 : ((((((⟨#[86, 65, 76, 85, 69, 32]⟩ : ByteArray) ++ x.f0) ++ (⟨#[32]⟩ : ByteArray)) ++ t1) ++ (⟨#[32]⟩ : ByteArray)) ++ t2).size = 6 + x.f0.size + 1 + t1.size + 1 + t2.size := by rw [ByteArray.size_append, m4] <;> rfl
      have g5 : (((((((⟨#[86, 65, 76, 85, 69, 32]⟩ : ByteArray) ++ x.f0) ++ (⟨#[32]⟩ : ByteArray)) ++ t1) ++ (⟨#[32]⟩ : ByteArray)) ++ t2).size + 2 ≤ 9223372036854775807) = True := eq_true (by rw [m5]; omega)
      have h5 : (9223372036854775807 < 6 + x.f0.size + 1 + t1.size + 1 + t2.size + 2) = False := eq_false (by omega)
      have m6 : (((((((⟨#[86, 65, 76, 85, 69, 32]⟩ : ByteArray) ++ x.f0) ++ (⟨#[32]⟩ : ByteArray)) ++ t1) ++ (⟨#[32]⟩ : ByteArray)) ++ t2) ++ (⟨#[13, 10]⟩ : ByteArray)).size = 6 + x.f0.size + 1 + t1.size + 1 + t2.size + 2 := by rw [ByteArray.size_append, m5] <;> rfl
      have g6 : ((((((((⟨#[86, 65, 76, 85, 69, 32]⟩ : ByteArray) ++ x.f0) ++ (⟨#[32]⟩ : ByteArray)) ++ t1) ++ (⟨#[32]⟩ : ByteArray)) ++ t2) ++ (⟨#[13, 10]⟩ : ByteArray)).size + x.f5.size ≤ 9223372036854775807) = True := eq_true (by rw [m6]; omega)
      have h6 : (9223372036854775807 < 6 + x.f0.size + 1 + t1.size + 1 + t2.size + 2 + x.f5.size) = False := eq_false (by omega)
      have m7 : ((((((((⟨#[86, 65, 76, 85, 69, 32]⟩ : ByteArray) ++ x.f0) ++ (⟨#[32]⟩ : ByteArray)) ++ t1) ++ (⟨#[32]⟩ : ByteArray)) ++ t2) ++ (⟨#[13, 10]⟩ : ByteArray)) ++ x.f5).size = 6 + x.f0.size + 1 + t1.size + 1 + t2.size + 2 + x.f5.size := by rw [ByteArray.size_append, m6] <;> rfl
      have g7 : (((((((((⟨#[86, 65, 76, 85, 69, 32]⟩ : ByteArray) ++ x.f0) ++ (⟨#[32]⟩ : ByteArray)) ++ t1) ++ (⟨#[32]⟩ : ByteArray)) ++ t2) ++ (⟨#[13, 10]⟩ : ByteArray)) ++ x.f5).size + 2 ≤ 9223372036854775807) = True := eq_true (by rw [m7]; omega)
      have h7 : (9223372036854775807 < 6 + x.f0.size + 1 + t1.size + 1 + t2.size + 2 + x.f5.size + 2) = False := eq_false (by omega)
      have m8 : (((((((((⟨#[86, 65, 76, 85, 69, 32]⟩ : ByteArray) ++ x.f0) ++ (⟨#[32]⟩ : ByteArray)) ++ t1) ++ (⟨#[32]⟩ : ByteArray)) ++ t2) ++ (⟨#[13, 10]⟩ : ByteArray)) ++ x.f5) ++ (⟨#[13, 10]⟩ : ByteArray)).size = 6 + x.f0.size + 1 + t1.size + 1 + t2.size + 2 + x.f5.size + 2 := by rw [ByteArray.size_append, m7] <;> rfl
      rw [← HIT.out] at m8
      clear m1 m2 m3 m4 m5 m6 m7 hd1 hd2
      have HM := Lib.hid (show (((((((((⟨#[86, 65, 76, 85, 69, 32]⟩ : ByteArray) ++ x.f0) ++ (⟨#[32]⟩ : ByteArray)) ++ t1) ++ (⟨#[32]⟩ : ByteArray)) ++ t2) ++ (⟨#[13, 10]⟩ : ByteArray)) ++ x.f5) ++ (⟨#[13, 10]⟩ : ByteArray)).size ≤ 7000 from by rw [← HIT.out]; exact item_size x HX.out)
      go_wp2_with (fail)
      replace AZ := Lib.hid (blk_drew AZ.out)
      replace HD := Lib.hid (show Lib.IsBuilderF 49 5 w.heap.size w.heap.size (Lib.byteCells (itemsL (l.take i))) w2.drew from HD.out)
      replace HB := Lib.hid (below_drew HB.out)
      refine start_ (n := 21) (S := fun w' => w'.cell? ⟨z, 0, none⟩ = some (.string x.f0) ∧ w'.cell? ⟨z, 5, none⟩ = some (.int .u32 x.f3) ∧ w'.cell? ⟨z, 7, none⟩ = some (.string x.f5)) (ds := []) #[false, false, false, false, false, false, false, false, false, false, false, false, false, false, false, false, false, false, false, false, false] (by kernel_rfl) rfl rfl ⟨(blk_cell AZ.out 0).trans rfl, (blk_cell AZ.out 5).trans rfl, (blk_cell AZ.out 7).trans rfl⟩ (fun hHeld => ?_)
      generalize w2.drew = w3 at AZ HD HB hHeld ⊢
      have AZ0 := AZ
      have HD0 := HD
      have HB0 := HB
      clear AZ HD HB
      refine pure_ (i := 0) (N := some 12) (v := ?_) (a' := ?_) #[true, false, false, false, false, false, false, false, false, false, false, false, false, false, false, false, false, false, false, false, false] rfl rfl (by kernel_rfl) (fun _ _ _ h => h) (Or.inl ⟨by rfl, ?_⟩) ?_ ?_
      rotate_left
      · intro w'
        go_simp
        with_reducible rfl
      rotate_left
      · simp only [Act.put, List.setIfInBounds_toArray, List.set_cons_zero, List.set_cons_succ, i64_w, i32_w]
        rfl
      refine pure_ (i := 4) (N := some 16) (v := ?_) (a' := ?_) #[true, false, false, false, true, false, false, false, false, false, false, false, false, false, false, false, false, false, false, false, false] rfl rfl (by kernel_rfl) (fun _ _ _ h => h) (Or.inl ⟨by rfl, ?_⟩) ?_ ?_
      rotate_left
      · intro w'
        go_simp
        with_reducible rfl
      rotate_left
      · simp only [Act.put, List.setIfInBounds_toArray, List.set_cons_zero, List.set_cons_succ, i64_w, i32_w]
        rfl
      refine pure_ (i := 10) (N := some 22) (v := ?_) (a' := ?_) #[true, false, false, false, true, false, false, false, false, false, true, false, false, false, false, false, false, false, false, false, false] rfl rfl (by kernel_rfl) (fun _ _ _ h => h) (Or.inl ⟨by rfl, ?_⟩) ?_ ?_
      rotate_left
      · intro w'
        go_simp
        with_reducible rfl
      rotate_left
      · simp only [Act.put, List.setIfInBounds_toArray, List.set_cons_zero, List.set_cons_succ, i64_w, i32_w]
        rfl
      refine pure_ (i := 16) (N := some 28) (v := ?_) (a' := ?_) #[true, false, false, false, true, false, false, false, false, false, true, false, false, false, false, false, true, false, false, false, false] rfl rfl (by kernel_rfl) (fun _ _ _ h => h) (Or.inl ⟨by rfl, ?_⟩) ?_ ?_
      rotate_left
      · intro w'
        go_simp
        with_reducible rfl
      rotate_left
      · simp only [Act.put, List.setIfInBounds_toArray, List.set_cons_zero, List.set_cons_succ, i64_w, i32_w]
        rfl
      refine take_ (i := 1) (N := some 13) (v := ?_) (a' := ?_) #[true, true, false, false, true, false, false, false, false, false, true, false, false, false, false, false, true, false, false, false, false] rfl rfl (by kernel_rfl) (fun _ _ _ h => h) (Or.inl ⟨by rfl, ?_⟩) hHeld ?_ ?_
      rotate_left
      · rintro w' ⟨s0, s1, s2⟩
        go_simp
        with_reducible rfl
      rotate_left
      · simp only [Act.put, List.setIfInBounds_toArray, List.set_cons_zero, List.set_cons_succ, i64_w, i32_w]
        rfl
      refine pure_ (i := 2) (N := some 14) (v := ?_) (a' := ?_) #[true, true, true, false, true, false, false, false, false, false, true, false, false, false, false, false, true, false, false, false, false] rfl rfl (by kernel_rfl) (fun _ _ _ h => h) (Or.inl ⟨by rfl, ?_⟩) ?_ ?_
      rotate_left
      · intro w'
        go_simp
        with_reducible rfl
      rotate_left
      · simp only [Act.put, List.setIfInBounds_toArray, List.set_cons_zero, List.set_cons_succ, i64_w, i32_w]
        rfl
      refine pure_ (i := 3) (N := some 15) (v := ?_) (a' := ?_) #[true, true, true, true, true, false, false, false, false, false, true, false, false, false, false, false, true, false, false, false, false] rfl rfl (by kernel_rfl) (fun _ _ _ h => h) (Or.inl ⟨by rfl, ?_⟩) ?_ ?_
      rotate_left
      · intro w'
        go_simp
        with_reducible rfl
      rotate_left
      · simp only [Act.put, List.setIfInBounds_toArray, List.set_cons_zero, List.set_cons_succ, i64_w, i32_w]
        rfl
      refine take_ (i := 5) (N := some 17) (v := ?_) (a' := ?_) #[true, true, true, true, true, true, false, false, false, false, true, false, false, false, false, false, true, false, false, false, false] rfl rfl (by kernel_rfl) (fun _ _ _ h => h) (Or.inl ⟨by rfl, ?_⟩) hHeld ?_ ?_
      rotate_left
      · rintro w' ⟨s0, s1, s2⟩
        go_simp
        with_reducible rfl
      rotate_left
      · simp only [Act.put, List.setIfInBounds_toArray, List.set_cons_zero, List.set_cons_succ, i64_w, i32_w]
        rfl
      refine pure_ (i := 6) (N := some 18) (v := ?_) (a' := ?_) #[true, true, true, true, true, true, true, false, false, false, true, false, false, false, false, false, true, false, false, false, false] rfl rfl (by kernel_rfl) (fun _ _ _ h => h) (Or.inl ⟨by rfl, ?_⟩) ?_ ?_
      rotate_left
      · intro w'
        go_simp
        with_reducible rfl
      rotate_left
      · simp only [Act.put, List.setIfInBounds_toArray, List.set_cons_zero, List.set_cons_succ, i64_w, i32_w]
        rfl
      refine take_ (i := 11) (N := some 23) (v := ?_) (a' := ?_) #[true, true, true, true, true, true, true, false, false, false, true, true, false, false, false, false, true, false, false, false, false] rfl rfl (by kernel_rfl) (fun _ _ _ h => h) (Or.inl ⟨by rfl, ?_⟩) hHeld ?_ ?_
      rotate_left
      · rintro w' ⟨s0, s1, s2⟩
        go_simp
        with_reducible rfl
      rotate_left
      · simp only [Act.put, List.setIfInBounds_toArray, List.set_cons_zero, List.set_cons_succ, i64_w, i32_w]
        rfl
      refine pure_ (i := 12) (N := some 24) (v := ?_) (a' := ?_) #[true, true, true, true, true, true, true, false, false, false, true, true, true, false, false, false, true, false, false, false, false] rfl rfl (by kernel_rfl) (fun _ _ _ h => h) (Or.inl ⟨by rfl, ?_⟩) ?_ ?_
      rotate_left
      · intro w'
        go_simp
        with_reducible rfl
      rotate_left
      · simp only [Act.put, List.setIfInBounds_toArray, List.set_cons_zero, List.set_cons_succ, i64_w, i32_w]
        rfl
      refine take_ (i := 17) (N := some 29) (v := ?_) (a' := ?_) #[true, true, true, true, true, true, true, false, false, false, true, true, true, false, false, false, true, true, false, false, false] rfl rfl (by kernel_rfl) (fun _ _ _ h => h) (Or.inl ⟨by rfl, ?_⟩) hHeld ?_ ?_
      rotate_left
      · rintro w' ⟨s0, s1, s2⟩
        go_simp
        with_reducible rfl
      rotate_left
      · simp only [Act.put, List.setIfInBounds_toArray, List.set_cons_zero, List.set_cons_succ, i64_w, i32_w]
        rfl
      refine one_ (i := 7) (N := some 19) #[true, true, true, true, true, true, true, true, false, false, true, true, true, false, false, false, true, true, false, false, false] rfl rfl (by kernel_rfl) (by decide) (fun K hK => ?_)
      refine goes_ Tryd.func17 (by kernel_rfl) rfl #[.int .u64 (flN x), .int .i64 10] (by rfl) rfl rfl (by simp only [List.map_toArray, List.map_cons, List.map_nil]; rfl) ?_
      with_reducible refine (FU.out _ (tab_below HT.out HB0.out)).mono ?_
      rintro e w10 ⟨rfl, hb⟩
      refine ⟨_, rfl, ?_⟩
      have AZ1 := Lib.hid (blk_below AZ0.out hb)
      have HD1 := Lib.hid (build_below HD0.out hb)
      have HB1 := Lib.hid (below_step HB0.out hb)
      clear hb AZ0 HD0 HB0
      refine hK.out _ _ ⟨(blk_cell AZ1.out 0).trans rfl, (blk_cell AZ1.out 5).trans rfl, (blk_cell AZ1.out 7).trans rfl⟩ (fun hHeld => ?_)
      clear hK K
      refine norm_ (a' := ?_) ?_ ?_
      rotate_left
      · show Act.put _ (some 19) _ = _
        simp only [Act.put, List.setIfInBounds_toArray, List.set_cons_zero, List.set_cons_succ, i64_w, i32_w]
        rfl
      refine pure_ (i := 8) (N := some 20) (v := ?_) (a' := ?_) #[true, true, true, true, true, true, true, true, true, false, true, true, true, false, false, false, true, true, false, false, false] rfl rfl (by kernel_rfl) (fun _ _ _ h => h) (Or.inl ⟨by rfl, ?_⟩) ?_ ?_
      rotate_left
      · intro w'
        go_simp
        with_reducible rfl
      rotate_left
      · simp only [Act.put, List.setIfInBounds_toArray, List.set_cons_zero, List.set_cons_succ, i64_w, i32_w]
        rfl
      refine pure_ (i := 9) (N := some 21) (v := ?_) (a' := ?_) #[true, true, true, true, true, true, true, true, true, true, true, true, true, false, false, false, true, true, false, false, false] rfl rfl (by kernel_rfl) (fun _ _ _ h => h) (Or.inl ⟨by rfl, ?_⟩) ?_ ?_
      rotate_left
      · intro w'
        go_simp
        with_reducible rfl
      rotate_left
      · simp only [Act.put, List.setIfInBounds_toArray, List.set_cons_zero, List.set_cons_succ, i64_w, i32_w]
        rfl
      refine one_ (i := 13) (N := some 25) #[true, true, true, true, true, true, true, true, true, true, true, true, true, true, false, false, true, true, false, false, false] rfl rfl (by kernel_rfl) (by decide) (fun K hK => ?_)
      refine goes_ Tryd.func18 (by kernel_rfl) rfl #[.int .i64 x.f5.size] (by rfl) rfl rfl (by simp only [List.map_toArray, List.map_cons, List.map_nil]; rfl) ?_
      with_reducible refine (FI.out _ (tab_below HT.out HB1.out)).mono ?_
      rintro e w11 ⟨rfl, hb⟩
      refine ⟨_, rfl, ?_⟩
      have AZ2 := Lib.hid (blk_below AZ1.out hb)
      have HD2 := Lib.hid (build_below HD1.out hb)
      have HB2 := Lib.hid (below_step HB1.out hb)
      clear hb AZ1 HD1 HB1
      refine hK.out _ _ ⟨(blk_cell AZ2.out 0).trans rfl, (blk_cell AZ2.out 5).trans rfl, (blk_cell AZ2.out 7).trans rfl⟩ (fun hHeld => ?_)
      clear hK K
      refine norm_ (a' := ?_) ?_ ?_
      rotate_left
      · show Act.put _ (some 25) _ = _
        simp only [Act.put, List.setIfInBounds_toArray, List.set_cons_zero, List.set_cons_succ, i64_w, i32_w]
        rfl
      refine pure_ (i := 14) (N := some 26) (v := ?_) (a' := ?_) #[true, true, true, true, true, true, true, true, true, true, true, true, true, true, true, false, true, true, false, false, false] rfl rfl (by kernel_rfl) (fun _ _ _ h => h) (Or.inl ⟨by rfl, ?_⟩) ?_ ?_
      rotate_left
      · intro w'
        go_simp
        with_reducible rfl
      rotate_left
      · simp only [Act.put, List.setIfInBounds_toArray, List.set_cons_zero, List.set_cons_succ, i64_w, i32_w]
        rfl
      refine pure_ (i := 15) (N := some 27) (v := ?_) (a' := ?_) #[true, true, true, true, true, true, true, true, true, true, true, true, true, true, true, true, true, true, false, false, false] rfl rfl (by kernel_rfl) (fun _ _ _ h => h) (Or.inl ⟨by rfl, ?_⟩) ?_ ?_
      rotate_left
      · intro w'
        go_simp
        with_reducible rfl
      rotate_left
      · simp only [Act.put, List.setIfInBounds_toArray, List.set_cons_zero, List.set_cons_succ, i64_w, i32_w]
        rfl
      refine pure_ (i := 18) (N := some 30) (v := ?_) (a' := ?_) #[true, true, true, true, true, true, true, true, true, true, true, true, true, true, true, true, true, true, true, false, false] rfl rfl (by kernel_rfl) (fun _ _ _ h => h) (Or.inl ⟨by rfl, ?_⟩) ?_ ?_
      rotate_left
      · intro w'
        go_simp
        with_reducible rfl
      rotate_left
      · simp only [Act.put, List.setIfInBounds_toArray, List.set_cons_zero, List.set_cons_succ, i64_w, i32_w]
        rfl
      refine pure_ (i := 19) (N := some 31) (v := ?_) (a' := ?_) #[true, true, true, true, true, true, true, true, true, true, true, true, true, true, true, true, true, true, true, true, false] rfl rfl (by kernel_rfl) (fun _ _ _ h => h) (Or.inl ⟨by rfl, ?_⟩) ?_ ?_
      rotate_left
      · intro w'
        go_simp
        with_reducible rfl
      rotate_left
      · simp only [Act.put, List.setIfInBounds_toArray, List.set_cons_zero, List.set_cons_succ, i64_w, i32_w]
        rfl
      refine one_ (i := 20) (N := some 32) #[true, true, true, true, true, true, true, true, true, true, true, true, true, true, true, true, true, true, true, true, true] rfl rfl (by kernel_rfl) (by decide) (fun K hK => ?_)
      refine goes_ Tryd.func16 (by kernel_rfl) rfl #[.pointer (some ⟨w.heap.size, 0, none⟩), .string (((((((((⟨#[86, 65, 76, 85, 69, 32]⟩ : ByteArray) ++ x.f0) ++ (⟨#[32]⟩ : ByteArray)) ++ t1) ++ (⟨#[32]⟩ : ByteArray)) ++ t2) ++ (⟨#[13, 10]⟩ : ByteArray)) ++ x.f5) ++ (⟨#[13, 10]⟩ : ByteArray))] (by rfl) rfl rfl (by simp only [List.map_toArray, List.map_cons, List.map_nil]; rfl) ?_
      with_reducible refine (writes w.heap.size w.heap.size (Lib.byteCells (itemsL (l.take i))) (((((((((⟨#[86, 65, 76, 85, 69, 32]⟩ : ByteArray) ++ x.f0) ++ (⟨#[32]⟩ : ByteArray)) ++ t1) ++ (⟨#[32]⟩ : ByteArray)) ++ t2) ++ (⟨#[13, 10]⟩ : ByteArray)) ++ x.f5) ++ (⟨#[13, 10]⟩ : ByteArray)) _ HD2.out (by rw [Lib.byteCells_length]; have := HL.out; have := HM.out; omega) HB2.out.size).mono ?_
      rintro e w12 ⟨rfl, hd, hb, hkk⟩
      refine ⟨_, rfl, ?_⟩
      have AZ3 := Lib.hid (hkk z _ AZ2.out (fun e => hzb (Option.some.inj e)) (fun c fz e => by injection e with _ e _; cases e))
      have HD3 := Lib.hid hd
      have HB3 := Lib.hid (below_from HB2.out hb)
      clear hb hd hkk AZ2 HD2 HB2
      refine hK.out _ _ ⟨(blk_cell AZ3.out 0).trans rfl, (blk_cell AZ3.out 5).trans rfl, (blk_cell AZ3.out 7).trans rfl⟩ (fun hHeld => ?_)
      clear hK K
      refine norm_ (a' := ?_) ?_ ?_
      rotate_left
      · show Act.put _ (some 32) _ = _
        simp only [Act.put, List.setIfInBounds_toArray, List.set_cons_zero, List.set_cons_succ, i64_w, i32_w]
        rfl
      refine done_ (by kernel_rfl) ?_
      go_wp2_with (fail)
      exact ⟨⟨i + 1, y + 1, by omega, by go_num, Lib.hid (by have := HY.out; omega), Lib.hid (by rw [HI.out, Lib.byteCells_append]; rw [HIT.out]; exact HD3.out), HB3⟩, by have := HY.out; simp [intOf]; omega⟩
    · obtain rfl : i = n := by omega
      have hq2 : decide (y < (i : Int)) = false := decide_eq_false (by have := HY.out; omega)
      have hl : l.take i = l := by rw [HNN.out]; exact List.take_length
      rw [hl] at HD
      have HL := Lib.hid (show (itemsL l).length ≤ 200 * 7000 from by
        have h1 := itemsL_len l (fun x hx => HS.out x hx)
        have h2 := HN.out
        omega)
      have hse : (⟨(itemsL l).toArray⟩ : ByteArray).size ≤ 200 * 7000 := by
        show (itemsL l).toArray.size ≤ _
        rw [List.size_toArray]
        exact HL.out
      clear hl
      have CS := Lib.hid (str_any w.heap.size w.heap.size (itemsL l) wr HD.out HB.out.size)
      obtain ⟨T, hTT⟩ : ∃ T : ByteArray, T = ⟨(itemsL l).toArray⟩ := ⟨_, rfl⟩
      rw [← hTT] at CS hse
      have HTT := Lib.hid hTT
      have g9 : (T.size + 5 ≤ 9223372036854775807) = True := eq_true (by omega)
      have h9 : (9223372036854775807 < T.size + 5) = False := eq_false (by omega)
      clear hTT
      go_wp2_with ((with_reducible refine CS.out.mono ?_); rintro e w3 ⟨rfl, hb3⟩; have HB3 := Lib.hid (below_from HB.out hb3); clear hb3 HB)
      go_ret
      exact ⟨by unfold itemsB; rw [← HTT.out]; rfl, by repeat (first | exact HB3.out | apply pw_below_drewN | apply below_drew)⟩
set_option maxRecDepth 100000 in
set_option maxHeartbeats 8000000 in
theorem stats_c (A : Option Addr) (c : Nat) (l : List S42) (w : World) (hr : Kd.C k42 w A l.length l) (hc : l.length ≤ c) (hT : Tab w) (hn : l.length ≤ 200) (hs : ∀ x, x ∈ l → SzS x) :
    Calls Tryd.prog 13 #[.slice A l.length c] w fun e w' => e = .returned (.string (statsB l)) ∧ Below w.heap.size w w' := by
  have HR0 := Lib.hid hr
  have HT := Lib.hid hT
  have HS := Lib.hid hs
  have HN := Lib.hid hn
  have hu30 := Tryd.underlying42
  have hl9 : (l.length : Int) ≤ 200 := by omega
  clear hr hT hs hn
  obtain ⟨n, hnn⟩ : ∃ n, n = l.length := ⟨_, rfl⟩
  rw [← hnn] at hc hl9 ⊢
  have HNN := Lib.hid hnn
  clear hnn
  go_enter Tryd.func13, Tryd.ntmps13
  go_upto_region 2 with (fail)
  have HD := Lib.hid (build_new w)
  have HB := Lib.hid (below_alloc (Below.refl w.heap.size w) (.cells #[.pointer none, .slice none 0 0] 49))
  generalize w.alloc (.cells #[.pointer none, .slice none 0 0] 49) = w1 at *
  go_wp2_with (fail)
  go_loopw [8] (fun v8 w' => ∃ (i : Nat) (y : Int), i ≤ n ∧ v8 = .int .i64 y ∧ Hid (y = (i : Int)) ∧ Hid (Lib.IsBuilderF 49 5 w.heap.size w.heap.size (Lib.byteCells (statsL (l.take i))) w') ∧ Hid (Below w.heap.size w w')) (fun v _ => n - (intOf v).toNat)
  case atStart => exact ⟨0, 0, Nat.zero_le _, rfl, Lib.hid rfl, HD, HB⟩
  case round =>
    clear HD HB
    obtain ⟨i, y, hi, rfl, HY, HD, HB⟩ := hrel
    by_cases hlt : i < n
    · have hil : i < l.length := by rw [← HNN.out]; exact hlt
      have p157 : 0 ≤ y := by have := HY.out; omega
      have q157 : y < (n : Int) := by have := HY.out; omega
      have vj : IntKind.i64.wrap (y + 1) = y + 1 := IntWalk.i64_in _ ⟨by omega, by omega⟩
      obtain ⟨ad, e157, hx0, hx1⟩ := at_T42 HR0.out y p157 (by rw [← HNN.out]; exact q157)
      cases e157
      replace hx0 := (HB.out.cell (World.block_lt_of_cell? w _ hx0)).trans hx0
      replace hx1 := (HB.out.cell (World.block_lt_of_cell? w _ hx1)).trans hx1
      have e0 := rd_at42 l i hil
      rw [← HY.out] at e0
      have HX := Lib.hid (show SzS (rd_T42 l y) from by rw [e0]; exact HS.out _ (List.getElem_mem hil))
      have HI := Lib.hid (show statsL (l.take (i + 1)) = statsL (l.take i) ++ (stB (rd_T42 l y)).data.toList from by rw [e0]; exact statsL_snoc l i hil)
      have HL := Lib.hid (show (statsL (l.take i)).length ≤ 200 * 2000 from by
        have h1 := statsL_len (l.take i) (fun x hx => HS.out x (List.mem_of_mem_take hx))
        rw [List.length_take] at h1
        omega)
      clear e0 hil
      generalize rd_T42 l y = x at *
      have hq0 : (0 ≤ y) = True := eq_true p157
      have hq1 : (y < (n : Int)) = True := eq_true q157
      go_upto_region 5 with (fail)
      have AZ := Lib.hid (blk_new wr (.cells #[.string x.f0, .int .u64 x.f1] 42))
      have hzb : wr.heap.size ≠ w.heap.size := by
        have h1 : w.heap.size < wr.heap.size := by rcases HD.out with h | h <;> exact h.lt
        omega
      replace HD := Lib.hid (build_below HD.out (below_alloc (Below.refl _ _) (.cells #[.string x.f0, .int .u64 x.f1] 42)))
      replace HB := Lib.hid (below_step HB.out (below_alloc (Below.refl _ _) (.cells #[.string x.f0, .int .u64 x.f1] 42)))
      clear hx0 hx1
      generalize wr.alloc (.cells #[.string x.f0, .int .u64 x.f1] 42) = w2 at *
      generalize wr.heap.size = z at *
      have hfl2 : x.f1.toNat < 18446744073709551616 := by have := HX.out; unfold SzS at this; omega
      have hfe : x.f1 = ((x.f1.toNat : Nat) : Int) := by have := HX.out; unfold SzS at this; omega
      have fu := fun W (h : Tab W) => fmtU x.f1.toNat hfl2 W h
      rw [← hfe] at fu
      have FU := Lib.hid fu
      have hd1 := decB_size x.f1.toNat hfl2
      obtain ⟨t1, ht1⟩ : ∃ t, t = decB x.f1.toNat := ⟨_, rfl⟩
      rw [← ht1] at FU hd1
      have HIT := Lib.hid (show stB x = ((((⟨#[83, 84, 65, 84, 32]⟩ : ByteArray) ++ x.f0) ++ (⟨#[32]⟩ : ByteArray)) ++ t1) ++ (⟨#[13, 10]⟩ : ByteArray) from by rw [ht1]; rfl)
      clear ht1 hfl2 hfe fu
      have hk0 : x.f0.size ≤ 1000 := HX.out.1
      have g0 : (5 + x.f0.size ≤ 9223372036854775807) = True := eq_true (by omega)
      have h0 : (9223372036854775807 < 5 + x.f0.size) = False := eq_false (by omega)
      have m1 : ((⟨#[83, 84, 65, 84, 32]⟩ : ByteArray) ++ x.f0).size = 5 + x.f0.size := by rw [ByteArray.size_append] <;> rfl
      have g1 : (((⟨#[83, 84, 65, 84, 32]⟩ : ByteArray) ++ x.f0).size + 1 ≤ 9223372036854775807) = True := eq_true (by rw [m1]; omega)
      have h1 : (9223372036854775807 < 5 + x.f0.size + 1) = False := eq_false (by omega)
      have m2 : (((⟨#[83, 84, 65, 84, 32]⟩ : ByteArray) ++ x.f0) ++ (⟨#[32]⟩ : ByteArray)).size = 5 + x.f0.size + 1 := by rw [ByteArray.size_append, m1] <;> rfl
      have g2 : ((((⟨#[83, 84, 65, 84, 32]⟩ : ByteArray) ++ x.f0) ++ (⟨#[32]⟩ : ByteArray)).size + t1.size ≤ 9223372036854775807) = True := eq_true (by rw [m2]; omega)
      have h2 : (9223372036854775807 < 5 + x.f0.size + 1 + t1.size) = False := eq_false (by omega)
      have m3 : ((((⟨#[83, 84, 65, 84, 32]⟩ : ByteArray) ++ x.f0) ++ (⟨#[32]⟩ : ByteArray)) ++ t1).size = 5 + x.f0.size + 1 + t1.size := by rw [ByteArray.size_append, m2] <;> rfl
      have g3 : (((((⟨#[83, 84, 65, 84, 32]⟩ : ByteArray) ++ x.f0) ++ (⟨#[32]⟩ : ByteArray)) ++ t1).size + 2 ≤ 9223372036854775807) = True := eq_true (by rw [m3]; omega)
      have h3 : (9223372036854775807 < 5 + x.f0.size + 1 + t1.size + 2) = False := eq_false (by omega)
      have m4 : (((((⟨#[83, 84, 65, 84, 32]⟩ : ByteArray) ++ x.f0) ++ (⟨#[32]⟩ : ByteArray)) ++ t1) ++ (⟨#[13, 10]⟩ : ByteArray)).size = 5 + x.f0.size + 1 + t1.size + 2 := by rw [ByteArray.size_append, m3] <;> rfl
      clear m1 m2 m3 m4 hd1
      have HM := Lib.hid (show (((((⟨#[83, 84, 65, 84, 32]⟩ : ByteArray) ++ x.f0) ++ (⟨#[32]⟩ : ByteArray)) ++ t1) ++ (⟨#[13, 10]⟩ : ByteArray)).size ≤ 2000 from by rw [← HIT.out]; exact st_size x HX.out)
      go_wp2_with (fail)
      replace AZ := Lib.hid (blk_drew AZ.out)
      replace HD := Lib.hid (show Lib.IsBuilderF 49 5 w.heap.size w.heap.size (Lib.byteCells (statsL (l.take i))) w2.drew from HD.out)
      replace HB := Lib.hid (below_drew HB.out)
      refine start_ (n := 10) (S := fun w' => w'.cell? ⟨z, 0, none⟩ = some (.string x.f0) ∧ w'.cell? ⟨z, 1, none⟩ = some (.int .u64 x.f1)) (ds := []) #[false, false, false, false, false, false, false, false, false, false] (by kernel_rfl) rfl rfl ⟨(blk_cell AZ.out 0).trans rfl, (blk_cell AZ.out 1).trans rfl⟩ (fun hHeld => ?_)
      generalize w2.drew = w3 at AZ HD HB hHeld ⊢
      have AZ0 := AZ
      have HD0 := HD
      have HB0 := HB
      clear AZ HD HB
      refine pure_ (i := 0) (N := some 12) (v := ?_) (a' := ?_) #[true, false, false, false, false, false, false, false, false, false] rfl rfl (by kernel_rfl) (fun _ _ _ h => h) (Or.inl ⟨by rfl, ?_⟩) ?_ ?_
      rotate_left
      · intro w'
        go_simp
        with_reducible rfl
      rotate_left
      · simp only [Act.put, List.setIfInBounds_toArray, List.set_cons_zero, List.set_cons_succ, i64_w, i32_w]
        rfl
      refine pure_ (i := 4) (N := some 16) (v := ?_) (a' := ?_) #[true, false, false, false, true, false, false, false, false, false] rfl rfl (by kernel_rfl) (fun _ _ _ h => h) (Or.inl ⟨by rfl, ?_⟩) ?_ ?_
      rotate_left
      · intro w'
        go_simp
        with_reducible rfl
      rotate_left
      · simp only [Act.put, List.setIfInBounds_toArray, List.set_cons_zero, List.set_cons_succ, i64_w, i32_w]
        rfl
      refine take_ (i := 1) (N := some 13) (v := ?_) (a' := ?_) #[true, true, false, false, true, false, false, false, false, false] rfl rfl (by kernel_rfl) (fun _ _ _ h => h) (Or.inl ⟨by rfl, ?_⟩) hHeld ?_ ?_
      rotate_left
      · rintro w' ⟨s0, s1⟩
        go_simp
        with_reducible rfl
      rotate_left
      · simp only [Act.put, List.setIfInBounds_toArray, List.set_cons_zero, List.set_cons_succ, i64_w, i32_w]
        rfl
      refine pure_ (i := 2) (N := some 14) (v := ?_) (a' := ?_) #[true, true, true, false, true, false, false, false, false, false] rfl rfl (by kernel_rfl) (fun _ _ _ h => h) (Or.inl ⟨by rfl, ?_⟩) ?_ ?_
      rotate_left
      · intro w'
        go_simp
        with_reducible rfl
      rotate_left
      · simp only [Act.put, List.setIfInBounds_toArray, List.set_cons_zero, List.set_cons_succ, i64_w, i32_w]
        rfl
      refine pure_ (i := 3) (N := some 15) (v := ?_) (a' := ?_) #[true, true, true, true, true, false, false, false, false, false] rfl rfl (by kernel_rfl) (fun _ _ _ h => h) (Or.inl ⟨by rfl, ?_⟩) ?_ ?_
      rotate_left
      · intro w'
        go_simp
        with_reducible rfl
      rotate_left
      · simp only [Act.put, List.setIfInBounds_toArray, List.set_cons_zero, List.set_cons_succ, i64_w, i32_w]
        rfl
      refine take_ (i := 5) (N := some 17) (v := ?_) (a' := ?_) #[true, true, true, true, true, true, false, false, false, false] rfl rfl (by kernel_rfl) (fun _ _ _ h => h) (Or.inl ⟨by rfl, ?_⟩) hHeld ?_ ?_
      rotate_left
      · rintro w' ⟨s0, s1⟩
        go_simp
        with_reducible rfl
      rotate_left
      · simp only [Act.put, List.setIfInBounds_toArray, List.set_cons_zero, List.set_cons_succ, i64_w, i32_w]
        rfl
      refine one_ (i := 6) (N := some 18) #[true, true, true, true, true, true, true, false, false, false] rfl rfl (by kernel_rfl) (by decide) (fun K hK => ?_)
      refine goes_ Tryd.func17 (by kernel_rfl) rfl #[.int .u64 x.f1, .int .i64 10] (by rfl) rfl rfl (by simp only [List.map_toArray, List.map_cons, List.map_nil]; rfl) ?_
      with_reducible refine (FU.out _ (tab_below HT.out HB0.out)).mono ?_
      rintro e w10 ⟨rfl, hb⟩
      refine ⟨_, rfl, ?_⟩
      have AZ1 := Lib.hid (blk_below AZ0.out hb)
      have HD1 := Lib.hid (build_below HD0.out hb)
      have HB1 := Lib.hid (below_step HB0.out hb)
      clear hb AZ0 HD0 HB0
      refine hK.out _ _ ⟨(blk_cell AZ1.out 0).trans rfl, (blk_cell AZ1.out 1).trans rfl⟩ (fun hHeld => ?_)
      clear hK K
      refine norm_ (a' := ?_) ?_ ?_
      rotate_left
      · show Act.put _ (some 18) _ = _
        simp only [Act.put, List.setIfInBounds_toArray, List.set_cons_zero, List.set_cons_succ, i64_w, i32_w]
        rfl
      refine pure_ (i := 7) (N := some 19) (v := ?_) (a' := ?_) #[true, true, true, true, true, true, true, true, false, false] rfl rfl (by kernel_rfl) (fun _ _ _ h => h) (Or.inl ⟨by rfl, ?_⟩) ?_ ?_
      rotate_left
      · intro w'
        go_simp
        with_reducible rfl
      rotate_left
      · simp only [Act.put, List.setIfInBounds_toArray, List.set_cons_zero, List.set_cons_succ, i64_w, i32_w]
        rfl
      refine pure_ (i := 8) (N := some 20) (v := ?_) (a' := ?_) #[true, true, true, true, true, true, true, true, true, false] rfl rfl (by kernel_rfl) (fun _ _ _ h => h) (Or.inl ⟨by rfl, ?_⟩) ?_ ?_
      rotate_left
      · intro w'
        go_simp
        with_reducible rfl
      rotate_left
      · simp only [Act.put, List.setIfInBounds_toArray, List.set_cons_zero, List.set_cons_succ, i64_w, i32_w]
        rfl
      refine one_ (i := 9) (N := some 21) #[true, true, true, true, true, true, true, true, true, true] rfl rfl (by kernel_rfl) (by decide) (fun K hK => ?_)
      refine goes_ Tryd.func16 (by kernel_rfl) rfl #[.pointer (some ⟨w.heap.size, 0, none⟩), .string (((((⟨#[83, 84, 65, 84, 32]⟩ : ByteArray) ++ x.f0) ++ (⟨#[32]⟩ : ByteArray)) ++ t1) ++ (⟨#[13, 10]⟩ : ByteArray))] (by rfl) rfl rfl (by simp only [List.map_toArray, List.map_cons, List.map_nil]; rfl) ?_
      with_reducible refine (writes w.heap.size w.heap.size (Lib.byteCells (statsL (l.take i))) (((((⟨#[83, 84, 65, 84, 32]⟩ : ByteArray) ++ x.f0) ++ (⟨#[32]⟩ : ByteArray)) ++ t1) ++ (⟨#[13, 10]⟩ : ByteArray)) _ HD1.out (by rw [Lib.byteCells_length]; have := HL.out; have := HM.out; omega) HB1.out.size).mono ?_
      rintro e w11 ⟨rfl, hd, hb, hkk⟩
      refine ⟨_, rfl, ?_⟩
      have AZ2 := Lib.hid (hkk z _ AZ1.out (fun e => hzb (Option.some.inj e)) (fun c fz e => by injection e with _ e _; cases e))
      have HD2 := Lib.hid hd
      have HB2 := Lib.hid (below_from HB1.out hb)
      clear hb hd hkk AZ1 HD1 HB1
      refine hK.out _ _ ⟨(blk_cell AZ2.out 0).trans rfl, (blk_cell AZ2.out 1).trans rfl⟩ (fun hHeld => ?_)
      clear hK K
      refine norm_ (a' := ?_) ?_ ?_
      rotate_left
      · show Act.put _ (some 21) _ = _
        simp only [Act.put, List.setIfInBounds_toArray, List.set_cons_zero, List.set_cons_succ, i64_w, i32_w]
        rfl
      refine done_ (by kernel_rfl) ?_
      go_wp2_with (fail)
      exact ⟨⟨i + 1, y + 1, by omega, by go_num, Lib.hid (by have := HY.out; omega), Lib.hid (by rw [HI.out, Lib.byteCells_append]; rw [HIT.out]; exact HD2.out), HB2⟩, by have := HY.out; simp [intOf]; omega⟩
    · obtain rfl : i = n := by omega
      have hq2 : decide (y < (i : Int)) = false := decide_eq_false (by have := HY.out; omega)
      have hl : l.take i = l := by rw [HNN.out]; exact List.take_length
      rw [hl] at HD
      have HL := Lib.hid (show (statsL l).length ≤ 200 * 2000 from by
        have h1 := statsL_len l (fun x hx => HS.out x hx)
        have h2 := HN.out
        omega)
      have hse : (⟨(statsL l).toArray⟩ : ByteArray).size ≤ 200 * 2000 := by
        show (statsL l).toArray.size ≤ _
        rw [List.size_toArray]
        exact HL.out
      clear hl
      have CS := Lib.hid (str_any w.heap.size w.heap.size (statsL l) wr HD.out HB.out.size)
      obtain ⟨T, hTT⟩ : ∃ T : ByteArray, T = ⟨(statsL l).toArray⟩ := ⟨_, rfl⟩
      rw [← hTT] at CS hse
      have HTT := Lib.hid hTT
      have g9 : (T.size + 5 ≤ 9223372036854775807) = True := eq_true (by omega)
      have h9 : (9223372036854775807 < T.size + 5) = False := eq_false (by omega)
      clear hTT
      go_wp2_with ((with_reducible refine CS.out.mono ?_); rintro e w3 ⟨rfl, hb3⟩; have HB3 := Lib.hid (below_from HB.out hb3); clear hb3 HB)
      go_ret
      exact ⟨by unfold statsB; rw [← HTT.out]; rfl, by repeat (first | exact HB3.out | apply pw_below_drewN | apply below_drew)⟩
def okI (l : List S30) : Bool := decide (l.length ≤ 200) && l.all (fun x => decide (x.f0.size ≤ 3000 ∧ x.f5.size ≤ 3000))
def okS (l : List S42) : Bool := decide (l.length ≤ 200) && l.all (fun x => decide (x.f0.size ≤ 1000 ∧ 0 ≤ x.f1 ∧ x.f1 < 18446744073709551616))
theorem okI_iff (l : List S30) : okI l = true ↔ l.length ≤ 200 ∧ ∀ x, x ∈ l → SzI x := by
  unfold okI SzI
  rw [Bool.and_eq_true, decide_eq_true_eq, List.all_eq_true]
  simp only [decide_eq_true_eq]
theorem okS_iff (l : List S42) : okS l = true ↔ l.length ≤ 200 ∧ ∀ x, x ∈ l → SzS x := by
  unfold okS SzS
  rw [Bool.and_eq_true, decide_eq_true_eq, List.all_eq_true]
  simp only [decide_eq_true_eq]
end Go.Proofs.YtbgoedhpndflpaaDoor.Say

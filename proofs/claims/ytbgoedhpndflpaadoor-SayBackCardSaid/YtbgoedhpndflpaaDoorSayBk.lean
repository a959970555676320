/- SayBack answers true: the walk (own text; written by wip/tools/gen_sayback.py). -/
import Derived.Test.YtbgoedhpndflpaaDoorSayAll
import Derived.Test.YtbgoedhpndflpaaDoorSayRows
namespace Go.Proofs.YtbgoedhpndflpaaDoor.Say
open Go.RowKit Go.Proofs.YtbgoedhpndflpaaDoorW.PrintWords Go.Proofs.YtbgoedhpndflpaaDoorW.PrintLast Go.Proofs.YtbgoedhpndflpaaDoorW.PrintMore Go.Proofs.YtbgoedhpndflpaaDoor.PSay
set_option linter.unusedVariables false
set_option linter.unusedSimpArgs false
set_option maxRecDepth 100000 in
set_option maxHeartbeats 3200000 in
theorem back_out (A : Option Addr) (c : Nat) (l : List S30) (a1 a2 : ByteArray) (w : World) (hr : Kd.C k30 w A l.length l) (hc : l.length ≤ c) (hT : Tab w) (b : Bool) (hg : tattlerlaw09_great.f 2000 l = some b) (h : b = true ∨ (b = false ∧ (3000 < a1.size ∨ (a1.size ≤ 3000 ∧ 3000 < a2.size)))) :
    Calls Tryd.prog 3 #[.slice A l.length c, .string a1, .string a2] w fun e w' => e = .returned (.bool true) ∧ Below w.heap.size w w' := by
  have CG := Lib.hid (tattlerlaw09_great.calls 2000 A c l b w hr hc hg)
  have HT := Lib.hid hT
  have CF := Lib.hid (fun w h => fixed_any w h)
  clear hg hr hT hc
  rcases h with rfl | ⟨rfl, h | ⟨h1, h2⟩⟩
  · go_enter Tryd.func3, Tryd.ntmps3
    go_wp2_with (first
      | (go_at_call 6; (with_reducible refine (CG.out).mono ?_); rintro e w1 ⟨rfl, hb1⟩)
      | (go_at_call 7; (with_reducible refine (CF.out _ (tab_below HT.out hb1)).mono ?_); rintro e w2 ⟨rfl, hb2⟩))
    go_ret
    exact ⟨rfl, below_step hb1 hb2⟩
  · have c1 : decide ((3000 : Int) < (a1.size : Int)) = true := decide_eq_true (by omega)
    clear h
    go_enter Tryd.func3, Tryd.ntmps3
    go_wp2_with (first
      | (go_at_call 6; (with_reducible refine (CG.out).mono ?_); rintro e w1 ⟨rfl, hb1⟩)
      | (go_at_call 7; (with_reducible refine (CF.out _ (tab_below HT.out hb1)).mono ?_); rintro e w2 ⟨rfl, hb2⟩))
    go_ret
    exact ⟨rfl, below_step hb1 hb2⟩
  · have c1 : decide ((3000 : Int) < (a1.size : Int)) = false := decide_eq_false (by omega)
    have c2 : decide ((3000 : Int) < (a2.size : Int)) = true := decide_eq_true (by omega)
    clear h1 h2
    go_enter Tryd.func3, Tryd.ntmps3
    go_wp2_with (first
      | (go_at_call 6; (with_reducible refine (CG.out).mono ?_); rintro e w1 ⟨rfl, hb1⟩)
      | (go_at_call 7; (with_reducible refine (CF.out _ (tab_below HT.out hb1)).mono ?_); rintro e w2 ⟨rfl, hb2⟩))
    go_ret
    exact ⟨rfl, below_step hb1 hb2⟩
set_option maxRecDepth 100000 in
set_option maxHeartbeats 6400000 in
theorem back_in (A : Option Addr) (c : Nat) (l : List S30) (a1 a2 : ByteArray) (w : World) (hr : Kd.C k30 w A l.length l) (hc : l.length ≤ c) (hT : Tab w) (hg : tattlerlaw09_great.f 2000 l = some false) (hn : l.length ≤ 100) (hf : ∀ x, x ∈ l → 0 ≤ x.f3 ∧ x.f3 ≤ 4294967295) (h1 : a1.size ≤ 3000) (h2 : a2.size ≤ 3000) :
    Calls Tryd.prog 3 #[.slice A l.length c, .string a1, .string a2] w fun e w' => e = .returned (.bool true) ∧ Below w.heap.size w w' := by
  have CG := Lib.hid (tattlerlaw09_great.calls 2000 A c l false w hr hc hg)
  have HR0 := Lib.hid hr
  have HT := Lib.hid hT
  have HF := Lib.hid hf
  have H12 := Lib.hid (And.intro h1 h2)
  have CF := Lib.hid (fun w h => fixed_any w h)
  have hu30 := Tryd.underlying30
  have c1 : decide ((3000 : Int) < (a1.size : Int)) = false := decide_eq_false (by omega)
  have c2 : decide ((3000 : Int) < (a2.size : Int)) = false := decide_eq_false (by omega)
  have hl9 : (l.length : Int) ≤ 100 := by omega
  clear hg hr hT hf h1 h2 hn
  obtain ⟨n, hnn⟩ : ∃ n, n = l.length := ⟨_, rfl⟩
  rw [← hnn] at hc hl9 CG ⊢
  have HNN := Lib.hid hnn
  clear hnn
  go_enter Tryd.func3, Tryd.ntmps3
  go_wp2_with ((with_reducible refine (CG.out).mono ?_); rintro e w1 ⟨rfl, hb1⟩; have HB := Lib.hid hb1; clear hb1 CG)
  clear c1 c2
  go_loopw [7, 29] (fun v7 v29 w' => ∃ (i : Nat) (y : Int) (own : List S30), i ≤ n ∧ v29 = .int .i64 y ∧ Hid (y = (i : Int)) ∧ Hid (own.length = i) ∧ Hid (∀ x, x ∈ own → Good x) ∧ Hid (Kd.R k30 30 w' w.heap.size (fun _ => True) v7 own) ∧ Hid (Below w.heap.size w w')) (fun _ v _ => n - (intOf v).toNat)
  case atStart => exact ⟨0, 0, [], Nat.zero_le _, rfl, Lib.hid rfl, Lib.hid rfl, Lib.hid (fun x hx => by cases hx), Lib.hid (Kd.R_nil _ _ _ _ _), HB⟩
  case round =>
    clear HB
    obtain ⟨i, y, own, hi, rfl, HY, HOL, HGD, HO, HB⟩ := hrel
    by_cases hlt : i < n
    · have hil : i < l.length := by rw [← HNN.out]; exact hlt
      have p157 : 0 ≤ y := by have := HY.out; omega
      have q157 : y < (n : Int) := by have := HY.out; omega
      have vj : IntKind.i64.wrap (y + 1) = y + 1 := IntWalk.i64_in _ ⟨by omega, by omega⟩
      obtain ⟨ad, e157, hx0, hx1, hx2, hx3, hx4, hx5, hx6, hx7⟩ := at_T30 HR0.out y p157 (by rw [← HNN.out]; exact q157)
      cases e157
      replace hx0 := (HB.out.cell (World.block_lt_of_cell? w _ hx0)).trans hx0
      replace hx1 := (HB.out.cell (World.block_lt_of_cell? w _ hx1)).trans hx1
      replace hx2 := (HB.out.cell (World.block_lt_of_cell? w _ hx2)).trans hx2
      replace hx3 := (HB.out.cell (World.block_lt_of_cell? w _ hx3)).trans hx3
      replace hx4 := (HB.out.cell (World.block_lt_of_cell? w _ hx4)).trans hx4
      replace hx5 := (HB.out.cell (World.block_lt_of_cell? w _ hx5)).trans hx5
      replace hx6 := (HB.out.cell (World.block_lt_of_cell? w _ hx6)).trans hx6
      replace hx7 := (HB.out.cell (World.block_lt_of_cell? w _ hx7)).trans hx7
      have e0 := rd_at30 l i hil
      rw [← HY.out] at e0
      have HX := Lib.hid (show 0 ≤ (rd_T30 l y).f3 ∧ (rd_T30 l y).f3 ≤ 4294967295 from by rw [e0]; exact HF.out _ (List.getElem_mem hil))
      clear e0 hil
      generalize rd_T30 l y = x at *
      have hq0 : (0 ≤ y) = True := eq_true p157
      have hq1 : (y < (n : Int)) = True := eq_true q157
      go_upto_region 7 with (fail)
      clear hx0 hx1 hx2 hx3 hx4 hx5 hx6 hx7
      go_upto_region 8 with (fail)
      have AZ := Lib.hid (blk_new wr (.cells #[.string x.f0, .int .u64 0, .int .u32 0, .int .u8 0, .int .u8 3, .int .u32 x.f3, .int .u64 0, .string x.f5] 30))
      have HO1 := Lib.hid (Kd.R_alloc HO.out (.cells #[.string x.f0, .int .u64 0, .int .u32 0, .int .u8 0, .int .u8 3, .int .u32 x.f3, .int .u64 0, .string x.f5] 30))
      have HB1 := Lib.hid (below_step HB.out (below_alloc (Below.refl _ _) (.cells #[.string x.f0, .int .u64 0, .int .u32 0, .int .u8 0, .int .u8 3, .int .u32 x.f3, .int .u64 0, .string x.f5] 30)))
      have hwz : w.heap.size ≤ wr.heap.size := HB.out.size
      clear HO HB
      generalize wr.alloc (.cells #[.string x.f0, .int .u64 0, .int .u32 0, .int .u8 0, .int .u8 3, .int .u32 x.f3, .int .u64 0, .string x.f5] 30) = w2 at *
      generalize wr.heap.size = z at *
      have z0 : w2.cell? ⟨z, 0, none⟩ = some (.string x.f0) := (blk_cell AZ.out 0).trans rfl
      have z1 : w2.cell? ⟨z, 1, none⟩ = some (.int .u64 0) := (blk_cell AZ.out 1).trans rfl
      have z2 : w2.cell? ⟨z, 2, none⟩ = some (.int .u32 0) := (blk_cell AZ.out 2).trans rfl
      have z3 : w2.cell? ⟨z, 3, none⟩ = some (.int .u8 0) := (blk_cell AZ.out 3).trans rfl
      have z4 : w2.cell? ⟨z, 4, none⟩ = some (.int .u8 3) := (blk_cell AZ.out 4).trans rfl
      have z5 : w2.cell? ⟨z, 5, none⟩ = some (.int .u32 x.f3) := (blk_cell AZ.out 5).trans rfl
      have z6 : w2.cell? ⟨z, 6, none⟩ = some (.int .u64 0) := (blk_cell AZ.out 6).trans rfl
      have z7 : w2.cell? ⟨z, 7, none⟩ = some (.string x.f5) := (blk_cell AZ.out 7).trans rfl
      have cm := fun W => tattlerref06_May.calls 300 x.f0 0 0 0 3 x.f3 0 x.f5 _ W (may_is x.f0 x.f5 x.f3)
      cases hm : (keyP x.f0 && decide (x.f5.size ≤ 1024)) with
      | false =>
        rw [hm] at cm
        have CM := Lib.hid cm
        clear cm hm
        go_wp2_with (first
          | (go_at_call 8; (with_reducible refine (CM.out _).mono ?_); rintro e w3 ⟨rfl, hb3⟩; have HB3 := Lib.hid (below_step HB1.out hb3); clear hb3)
          | (go_at_call 7; (with_reducible refine (CF.out _ (tab_below HT.out HB3.out)).mono ?_); rintro e w4 ⟨rfl, hb4⟩; have HB4 := Lib.hid (below_step HB3.out hb4); clear hb4))
        go_ret
        exact ⟨rfl, by repeat (first | exact HB4.out | apply pw_below_drewN | apply below_drew)⟩
      | true =>
        rw [hm] at cm
        have CM := Lib.hid cm
        have HGX := Lib.hid (show Good (⟨x.f0, (⟨0, 0, 0⟩ : S28), 3, x.f3, 0, x.f5⟩ : S30) from by
          rw [Bool.and_eq_true, decide_eq_true_eq] at hm
          exact ⟨rfl, rfl, rfl, HX.out, hm.1, hm.2⟩)
        clear cm hm
        go_upto_region 10 with ((with_reducible refine (CM.out _).mono ?_); rintro e w3 ⟨rfl, hb3⟩; have AZ3 := Lib.hid (blk_below AZ.out hb3); have HO3 := Lib.hid (Kd.R_below HO1.out hb3); have HB3 := Lib.hid (below_step HB1.out hb3); clear hb3 AZ HO1 HB1 CM)
        clear z0 z1 z2 z3 z4 z5 z6 z7
        have z0 : w3.cell? ⟨z, 0, none⟩ = some (.string x.f0) := (blk_cell AZ3.out 0).trans rfl
        have z1 : w3.cell? ⟨z, 1, none⟩ = some (.int .u64 0) := (blk_cell AZ3.out 1).trans rfl
        have z2 : w3.cell? ⟨z, 2, none⟩ = some (.int .u32 0) := (blk_cell AZ3.out 2).trans rfl
        have z3 : w3.cell? ⟨z, 3, none⟩ = some (.int .u8 0) := (blk_cell AZ3.out 3).trans rfl
        have z4 : w3.cell? ⟨z, 4, none⟩ = some (.int .u8 3) := (blk_cell AZ3.out 4).trans rfl
        have z5 : w3.cell? ⟨z, 5, none⟩ = some (.int .u32 x.f3) := (blk_cell AZ3.out 5).trans rfl
        have z6 : w3.cell? ⟨z, 6, none⟩ = some (.int .u64 0) := (blk_cell AZ3.out 6).trans rfl
        have z7 : w3.cell? ⟨z, 7, none⟩ = some (.string x.f5) := (blk_cell AZ3.out 7).trans rfl
        go_upto_region 11 with ((with_reducible refine gate_builtin (b := .append) (xs := #[.tmp 44, .tmp 46]) rfl ?_); at_builtin; refine Kd.R_append k30 (w0 := w) w.heap.size rfl (.tmp 44) (.tmp 46) 22 30 (.agg #[(.string ⟨#[]⟩), (.int .u64 0), (.int .u32 0), (.int .u8 0), (.int .u8 0), (.int .u32 0), (.int .u64 0), (.string ⟨#[]⟩)]) 64 rfl Tryd.underlying22 info30 rfl (by decide) (by omega) u7 own (⟨x.f0, (⟨0, 0, 0⟩ : S28), 3, x.f3, 0, x.f5⟩ : S30) [.string x.f0, .int .u64 0, .int .u32 0, .int .u8 0, .int .u8 3, .int .u32 x.f3, .int .u64 0, .string x.f5] (fun _ => True) (fun _ => False) rfl rfl ?aP (fun _ hk => hk.elim) ?aF ?aO ?aB ?aS ?aL ?_; (case aP => exact k30_mkM _ _ _ (⟨x.f0, (⟨0, 0, 0⟩ : S28), 3, x.f3, 0, x.f5⟩ : S30)); (case aB => exact HB3.out); (case aF => exact (fun _ _ => trivial)); (case aO => exact HO3.out); (case aS => exact HB3.out.size); (case aL => have h8 := HOL.out; omega); intro v1 w5 ho hb5 hg5 hat5; have HO5 := Lib.hid ho; have HB5 := Lib.hid hb5; clear ho hb5 hg5 hat5)
        go_wp2_with (fail)
        exact ⟨⟨i + 1, y + 1, own ++ [(⟨x.f0, (⟨0, 0, 0⟩ : S28), 3, x.f3, 0, x.f5⟩ : S30)], by omega, by go_num, Lib.hid (by have h := HY.out; omega), Lib.hid (by rw [List.length_append, HOL.out]; rfl), Lib.hid (fun q hq => by
          rcases List.mem_append.1 hq with h | h
          · exact HGD.out q h
          · rw [List.mem_singleton] at h
            rw [h]
            exact HGX.out), HO5, HB5⟩, by simp [intOf]; omega⟩
    · obtain ⟨Ao, co, eo⟩ := Kd.R_slice HO.out
      subst eo
      obtain ⟨hl0, hco, hc0⟩ := Kd.R_reads' HO.out
      have hsz : ∀ q, q ∈ own → SzI q := fun q hq => ⟨by have := (key_mem (HGD.out q hq).2.2.2.2.1).2.2; omega, by have := (HGD.out q hq).2.2.2.2.2; omega⟩
      have hn1 : own.length ≤ 100 := by have h := HOL.out; omega
      have HCo := Lib.hid hc0
      have CI := Lib.hid (items_c Ao co own wr hc0 hco (tab_below HT.out HB.out) (by omega) hsz)
      have hra := read_all a1 a2 own HGD.out hn1 H12.out.1 H12.out.2
      have hTs : (itemsB own).size ≤ 700005 := by
        have h1 := itemsL_len own hsz
        have h2 := itemsB_size own
        omega
      have hsame := same_is own (by omega)
      have hq1 : (y < (n : Int)) = False := eq_false (by have := HY.out; omega)
      clear hl0 hc0 hsz HOL HGD HF HY hn1
      generalize itemsB own = T at *
      obtain ⟨r, hr⟩ : ∃ r : Int, r = ((a1.size + T.size : Nat) : Int) := ⟨_, rfl⟩
      rw [← hr] at hra
      obtain ⟨k, hk⟩ : ∃ k, k = 5 * own.length + 402 := ⟨_, rfl⟩
      rw [← hk] at hra
      have vw : IntKind.i64.wrap ((a1.size : Int) + (T.size : Int)) = r := by
        rw [hr, Int.natCast_add]
        exact IntWalk.i64_in _ ⟨by omega, by have := H12.out.1; omega⟩
      have b1 : (a1.size + T.size ≤ 9223372036854775807) = True := eq_true (by have := H12.out.1; omega)
      have b2 : (a1.size + T.size + a2.size ≤ 9223372036854775807) = True := eq_true (by have := H12.out.1; have := H12.out.2; omega)
      have b3 : (9223372036854775807 < a1.size + T.size) = False := eq_false (by have := H12.out.1; omega)
      have b4 : (9223372036854775807 < a1.size + T.size + a2.size) = False := eq_false (by have := H12.out.1; have := H12.out.2; omega)
      have CR := Lib.hid (fun W => say_Read.calls k _ _ own r 0 W hra)
      have hco' := Lib.hid hco
      clear hra hr hk hTs hco
      go_wp2_with (first
        | (go_at_call 9; (with_reducible refine (CI.out).mono ?_); rintro e w2 ⟨rfl, hb2⟩; have HCb := Lib.hid (Kd.C_below HCo.out hb2); have HB2 := Lib.hid (below_step HB.out hb2); clear hb2 CI HCo)
        | (go_at_call 10; (with_reducible refine (CR.out _).mono ?_); rintro e w3 ⟨v0, rfl, hr3, hb3⟩; obtain ⟨A1, q1, e1⟩ := Kd.R_slice hr3; subst e1; have HR3 := Lib.hid (Kd.R_reads' hr3).2.2; have HQ3 := Lib.hid (Kd.R_reads' hr3).2.1; have HC3 := Lib.hid (Kd.C_below HCb.out hb3); have HB3 := Lib.hid (below_step HB2.out hb3); clear hb3 hr3 CR HCb)
        | (go_at_call 7; (with_reducible refine (CF.out _ (tab_below HT.out HB3.out)).mono ?_); rintro e w4 ⟨rfl, hb4⟩; have HC4 := Lib.hid (Kd.C_below HC3.out hb4); have HR4 := Lib.hid (Kd.C_below HR3.out hb4); have HB4 := Lib.hid (below_step HB3.out hb4); clear hb4 HC3 HR3)
        | (go_at_call 11; (with_reducible refine (tattlerref06_Same.calls 2000 _ _ own _ _ own true _ HR4.out HQ3.out HC4.out hco'.out hsame).mono ?_); rintro e w5 ⟨rfl, hd5⟩))
      go_ret
      exact ⟨rfl, below_step HB4.out hd5.below⟩
theorem back_walk (A0 : Option Addr) (len0 cap0 : Nat) (a1 a2 : ByteArray) (w : World)
    (r0 : len0 ≤ cap0 ∧ cap0 ≤ maxLen ∧ (0 < len0 → ∃ b off, A0 = some ⟨b, off, none⟩ ∧ b < w.heap.size ∧ ∀ i, i < len0 → ∃ cs, Opener.IsRec cs ∧ cs.length = 8 ∧ ∀ j, j < 8 → w.cell? ⟨b, off + (i * 8 + j), none⟩ = cs[j]?)) (hT : Tab w) :
    Calls Tryd.prog 3 #[.slice A0 len0 cap0, .string a1, .string a2] w fun e w' => e = .returned (.bool true) ∧ Below w.heap.size w w' := by
  obtain ⟨l, e0, hP, c0, h0⟩ := Opener.recs_of r0
  subst e0
  obtain ⟨b, hg, hb⟩ := great_is l 2000 (by omega)
  cases b with
  | true => exact back_out A0 cap0 l a1 a2 w c0 h0 hT true hg (Or.inl rfl)
  | false =>
    obtain ⟨hn, _⟩ := hb rfl
    by_cases h1 : 3000 < a1.size
    · exact back_out A0 cap0 l a1 a2 w c0 h0 hT false hg (Or.inr ⟨rfl, Or.inl h1⟩)
    · by_cases h2 : 3000 < a2.size
      · exact back_out A0 cap0 l a1 a2 w c0 h0 hT false hg (Or.inr ⟨rfl, Or.inr ⟨by omega, h2⟩⟩)
      · exact back_in A0 cap0 l a1 a2 w c0 h0 hT hg hn (fun x hx => (hP x hx).1) (by omega) (by omega)
end Go.Proofs.YtbgoedhpndflpaaDoor.Say

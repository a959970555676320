/- The reference's Get of records (own text; printed by wip/tools/gen_recrefget.py, a program of this session). -/
import Derived.Test.YtlohnhjfdmldnaaRecChain
import Derived.Test.YtlohnhjfdmldnaaRecMayB
namespace Go.Proofs.Ytlohnhjfdmldnaa.Rec
open Go.Proofs.Ytlohnhjfdmldnaa Go.RowKit Go.Proofs.Ytlohnhjfdmldnaa.Mem
open Go.Proofs.Ytlohnhjfdmldnaa.Num (getS textS)
set_option linter.unusedVariables false
set_option linter.unusedSimpArgs false
theorem val_range (s : ByteArray) (a e : Int) (k : Nat) : 0 ≤ val s a e k ∧ val s a e k ≤ mo k := by
  refine rdN_range _ _ _ _ ?_
  unfold mo
  split <;> decide
set_option maxRecDepth 100000 in
set_option maxHeartbeats 1600000 in
theorem rget_err (s : ByteArray) (a : Int) (w : World) (hs : s.size ≤ 900000) (t : ByteArray) (p f : Int) (ht : textS s a 250 = (t, p, f)) (hf : ¬ f = 0) : Calls Try.prog 27 #[.string s, .int .i64 a] w fun e w' => e = .returned (bad f) ∧ Below w.heap.size w w' := by
  have hsm : s.size ≤ maxLen := by unfold maxLen; omega
  have hT := fun W => Num.refGetText_any s a 250 W hsm (by decide)
  rw [ht] at hT
  simp only [Num.textV] at hT
  have HT0 := Lib.hid hT
  clear hT
  have c0 : (f != 0) = true := bne_iff_ne.2 hf
  clear ht
  go_enter Try.func27, Try.ntmps27
  go_wp2_with (fail)
  refine (HT0.out _).mono ?_
  rintro e w1 ⟨rfl, b1⟩
  have HZ := Lib.hid (at_below (at_new w #[.string ⟨#[]⟩, .int .u64 0, .int .u32 0, .int .u8 0, .int .u8 0, .int .u32 0, .int .u64 0, .string ⟨#[]⟩] 27) b1)
  have HB := Lib.hid (below_on (below_al (o := .cells #[.string ⟨#[]⟩, .int .u64 0, .int .u32 0, .int .u8 0, .int .u8 0, .int .u32 0, .int .u64 0, .string ⟨#[]⟩] 27) (Below.refl w.heap.size w)) b1)
  clear b1
  obtain ⟨y0, y1, y2, y3, y4, y5, y6, y7, w0_, w1_, w2_, w3_, w4_, w5_, w6_, w7_⟩ := at8 HZ.out
  go_wp2_with (fail)
  clear y0 y1 y2 y3 y4 y5 y6 y7 w0_ w1_ w2_ w3_ w4_ w5_ w6_ w7_
  have HS := Lib.hid (at_set8 (v0 := .string ⟨#[]⟩) (v1 := .int .u64 0) (v2 := .int .u32 0) (v3 := .int .u8 0) (v4 := .int .u8 0) (v5 := .int .u32 0) (v6 := .int .u64 0) (v7 := .string ⟨#[]⟩) HZ.out)
  have HT := Lib.hid (below_set8 (v0 := .string ⟨#[]⟩) (v1 := .int .u64 0) (v2 := .int .u32 0) (v3 := .int .u8 0) (v4 := .int .u8 0) (v5 := .int .u32 0) (v6 := .int .u64 0) (v7 := .string ⟨#[]⟩) HB.out (Nat.le_refl _))
  clear HZ HB
  generalize ((((((((w1.setCell ⟨w.heap.size, 0, none⟩ (.string ⟨#[]⟩)).setCell ⟨w.heap.size, 1, none⟩ (.int .u64 0)).setCell ⟨w.heap.size, 2, none⟩ (.int .u32 0)).setCell ⟨w.heap.size, 3, none⟩ (.int .u8 0)).setCell ⟨w.heap.size, 4, none⟩ (.int .u8 0)).setCell ⟨w.heap.size, 5, none⟩ (.int .u32 0)).setCell ⟨w.heap.size, 6, none⟩ (.int .u64 0)).setCell ⟨w.heap.size, 7, none⟩ (.string ⟨#[]⟩)) = wz at *
  obtain ⟨zz0, zz1, zz2, zz3, zz4, zz5, zz6, zz7, -⟩ := at8 HS.out
  refine bodyPost_ret (by simp [results, Try.results27, go_sem, zz0, zz1, zz2, zz3, zz4, zz5, zz6, zz7]; try rfl) rfl ?_
  exact ⟨rfl, HT.out⟩
theorem six0 (w : World) (v : Nat → Int) (b : Nat) (t : TypeId) (A : Array Value) (h : At w b A t) (hA : ∀ j, j < 6 → A[j]? = some (.int .u64 (v j))) : ∀ j, j < 6 → w.cell? ⟨b, j, none⟩ = some (.int .u64 (v j)) ∧ w.frozen? ⟨b, j, none⟩ = false := fun j hj => ⟨(h.cell j).trans (hA j hj), h.free j⟩
set_option maxRecDepth 100000 in
set_option maxHeartbeats 6400000 in
theorem rget_loop (s : ByteArray) (a : Int) (w : World) (hs : s.size ≤ 900000) (t : ByteArray) (p : Int) (ht : textS s a 250 = (t, p, 0)) : Calls Try.prog 27 #[.string s, .int .i64 a] w fun e w' => e = .returned (getV' s t p 0) ∧ Below w.heap.size w w' := by
  have hsm : s.size ≤ maxLen := by unfold maxLen; omega
  have hT := fun W => Num.refGetText_any s a 250 W hsm (by decide)
  rw [ht] at hT
  simp only [Num.textV] at hT
  have HT0 := Lib.hid hT
  clear hT
  have htz : t.size ≤ s.size := by
    have := rdT_size s a 0 250
    unfold rdT at this
    rw [ht, if_neg (by simp), if_neg (by simp)] at this
    exact this
  clear ht
  have hE4 := Lib.hid (fun k f (hk : k ≤ 3) (hf : ¬ f = 0) (h : (chain s p 0 (k + 1)).2 = f) => get_err4 (t := t) hk (Or.inr h) hf)
  have hE6 := Lib.hid (fun k f (hk : k ≤ 6) (hd : val s p 0 3 = 3) (h : (chain s p 0 k).2 = f) (hf : ¬ f = 0) => get_err6 (t := t) hk hd h hf)
  have hX : getV' s t p 0 = getV' s t p 0 := rfl
  conv at hX => rhs; unfold getV'
  have hV := Lib.hid (val_range s p 0)
  have hC := Lib.hid (chain_eq s p 0)
  have h00 : chain s p 0 0 = (p, 0) := rfl
  generalize getV' s t p 0 = G at *
  generalize val s p 0 = V at *
  generalize chain s p 0 = C at *
  have HG := Lib.hid (fun (i : Int) (W : World) => Num.refGet_any s i W hsm)
  have HQ := Lib.hid hX
  clear hX
  go_enter Try.func27, Try.ntmps27
  go_wp2_with (fail)
  refine (HT0.out _).mono ?_
  rintro e w1 ⟨rfl, b1⟩
  have HZ := Lib.hid (at_below (at_new w #[.string ⟨#[]⟩, .int .u64 0, .int .u32 0, .int .u8 0, .int .u8 0, .int .u32 0, .int .u64 0, .string ⟨#[]⟩] 27) b1)
  have HB := Lib.hid (below_on (below_al (o := .cells #[.string ⟨#[]⟩, .int .u64 0, .int .u32 0, .int .u8 0, .int .u8 0, .int .u32 0, .int .u64 0, .string ⟨#[]⟩] 27) (Below.refl w.heap.size w)) b1)
  clear b1
  have lz : w.heap.size < w1.heap.size := At.lt HZ.out
  go_wp2_with (fail)
  have HM := Lib.hid (at_alloc (o := .cells #[.int .u64 0, .int .u64 0, .int .u64 0, .int .u64 0, .int .u64 0, .int .u64 0] 72) (at_new w1 #[.int .u64 18446744073709551615, .int .u64 4294967295, .int .u64 255, .int .u64 255, .int .u64 4294967295, .int .u64 18446744073709551615] 72))
  have HN := Lib.hid (at_new (w1.alloc (.cells #[.int .u64 18446744073709551615, .int .u64 4294967295, .int .u64 255, .int .u64 255, .int .u64 4294967295, .int .u64 18446744073709551615] 72)) #[.int .u64 0, .int .u64 0, .int .u64 0, .int .u64 0, .int .u64 0, .int .u64 0] 72)
  replace HZ := Lib.hid (at_alloc (o := .cells #[.int .u64 0, .int .u64 0, .int .u64 0, .int .u64 0, .int .u64 0, .int .u64 0] 72) (at_alloc (o := .cells #[.int .u64 18446744073709551615, .int .u64 4294967295, .int .u64 255, .int .u64 255, .int .u64 4294967295, .int .u64 18446744073709551615] 72) HZ.out))
  replace HB := Lib.hid (below_al (o := .cells #[.int .u64 0, .int .u64 0, .int .u64 0, .int .u64 0, .int .u64 0, .int .u64 0] 72) (below_al (o := .cells #[.int .u64 18446744073709551615, .int .u64 4294967295, .int .u64 255, .int .u64 255, .int .u64 4294967295, .int .u64 18446744073709551615] 72) HB.out))
  rw [World.size_alloc] at HN
  generalize (w1.alloc (.cells #[.int .u64 18446744073709551615, .int .u64 4294967295, .int .u64 255, .int .u64 255, .int .u64 4294967295, .int .u64 18446744073709551615] 72)).alloc (.cells #[.int .u64 0, .int .u64 0, .int .u64 0, .int .u64 0, .int .u64 0, .int .u64 0] 72) = w2 at *
  have nm : w1.heap.size ≠ w1.heap.size + 1 := by omega
  have lN : w1.heap.size + 1 < w2.heap.size := At.lt HN.out
  have hM := Lib.hid (fun j hj => (six0 w2 mo w1.heap.size 72 _ HM.out (fun j hj => by
    match j, hj with
    | 0, _ => rfl
    | 1, _ => rfl
    | 2, _ => rfl
    | 3, _ => rfl
    | 4, _ => rfl
    | 5, _ => rfl) j hj).1)
  have hN := Lib.hid (six0 w2 (fun j => if j < 0 then V j else 0) (w1.heap.size + 1) 72 _ HN.out (fun j hj => by
    match j, hj with
    | 0, _ => rfl
    | 1, _ => rfl
    | 2, _ => rfl
    | 3, _ => rfl
    | 4, _ => rfl
    | 5, _ => rfl))
  clear HM HN
  generalize hbn : w1.heap.size + 1 = bn at *
  generalize hbm : w1.heap.size = bm at *
  go_loopw [8, 12, 13] (fun i c kk w' => ∃ k : Nat, k ≤ 6 ∧ kk = .int .i64 k ∧ i = .int .i64 (C k).1 ∧ (C k).2 = 0 ∧ ((c = .int .i64 4 ∧ k ≤ 4 ∧ (k = 4 → ¬ V 3 = 3)) ∨ (c = .int .i64 6 ∧ 4 ≤ k ∧ V 3 = 3)) ∧ w.heap.size < w'.heap.size ∧ bm < w'.heap.size ∧ bn < w'.heap.size ∧ Hid (∀ j, j < 6 → w'.cell? ⟨bm, j, none⟩ = some (.int .u64 (mo j))) ∧ Hid (∀ j, j < 6 → w'.cell? ⟨bn, j, none⟩ = some (.int .u64 (if j < k then V j else 0)) ∧ w'.frozen? ⟨bn, j, none⟩ = false) ∧ Hid (At w' w.heap.size #[.string ⟨#[]⟩, .int .u64 0, .int .u32 0, .int .u8 0, .int .u8 0, .int .u32 0, .int .u64 0, .string ⟨#[]⟩] 27) ∧ Hid (Below w.heap.size w w')) (fun _ _ kk _ => 6 - (intOf kk).toNat)
  case atStart => exact ⟨0, by omega, rfl, by rw [h00], by rw [h00], Or.inl ⟨rfl, by omega, by omega⟩, by omega, by omega, by omega, hM, hN, HZ, HB⟩
  case round =>
    clear hM hN HZ HB
    obtain ⟨k, hk6, rfl, rfl, hC0, hcnt, lw, lm, ln, hM, hN, HZ, HB⟩ := hrel
    have hround : ∀ (cn : Int) (hcn : (cn = 4 ∧ k < 4) ∨ (cn = 6 ∧ 4 ≤ k ∧ k < 6 ∧ V 3 = 3)), True := fun _ _ => trivial
    clear hround
    obtain ⟨v, nx, f, hg⟩ : ∃ v nx f, getS s (C k).1 = (v, nx, f) := ⟨_, _, _, rfl⟩
    have hgr := Num.getS_range s (C k).1
    rw [hg] at hgr
    simp only [] at hgr
    have hck := hC.out k
    have hrd : rdN s (C k).1 (C k).2 (mo k) = if ¬ f = 0 then (0, (C k).1, f) else if mo k < v then (0, (C k).1, 3) else (v, nx, 0) := by
      unfold rdN
      rw [hC0, if_neg (by simp), hg]
    rw [hrd] at hck
    clear hrd
    have hGet := fun W => HG.out (C k).1 W
    rw [hg] at hGet
    simp only [Num.getV] at hGet
    have HGk := Lib.hid hGet
    clear hGet hg
    generalize hik : (C k).1 = ik at *
    rcases hcnt with ⟨rfl, hk4, h43⟩ | ⟨rfl, hk4, h33⟩
    · by_cases hlt : k < 4
      · have cl : decide ((k : Int) < 4) = true := decide_eq_true (by omega)
        by_cases hf : f = 0
        · subst hf
          rw [if_neg (by simp)] at hck
          have cm := hM.out k (by omega)
          have cn := hN.out k (by omega)
          obtain ⟨cn1, cn2⟩ := cn
          by_cases hb : mo k < v
          · rw [if_pos hb] at hck
            have hr : G = bad 3 := (hE4.out k 3 (by omega) (by decide) (by rw [← (Prod.ext_iff.1 (Prod.ext_iff.1 hck).2).2]))
            have c9 : decide (mo k < v) = true := decide_eq_true hb
            clear hb hck
            generalize mo k = mk at *
            clear cn1 cn2
            go_wp2_with (fail)
            refine (HGk.out _).mono ?_
            rintro e w3 ⟨rfl, b3⟩
            have cm3 : w3.cell? ⟨bm, k, none⟩ = some (.int .u64 mk) := (b3.cell (p := ⟨bm, k, none⟩) lm).trans cm
            replace HZ := Lib.hid (at_below HZ.out b3)
            replace HB := Lib.hid (below_on HB.out b3)
            clear cm b3 hM hN
            obtain ⟨y0, y1, y2, y3, y4, y5, y6, y7, w0_, w1_, w2_, w3_, w4_, w5_, w6_, w7_⟩ := at8 HZ.out
            go_wp2_with (fail)
            clear y0 y1 y2 y3 y4 y5 y6 y7 w0_ w1_ w2_ w3_ w4_ w5_ w6_ w7_
            have HS := Lib.hid (at_set8 (v0 := .string ⟨#[]⟩) (v1 := .int .u64 0) (v2 := .int .u32 0) (v3 := .int .u8 0) (v4 := .int .u8 0) (v5 := .int .u32 0) (v6 := .int .u64 0) (v7 := .string ⟨#[]⟩) HZ.out)
            have HT := Lib.hid (below_set8 (v0 := .string ⟨#[]⟩) (v1 := .int .u64 0) (v2 := .int .u32 0) (v3 := .int .u8 0) (v4 := .int .u8 0) (v5 := .int .u32 0) (v6 := .int .u64 0) (v7 := .string ⟨#[]⟩) HB.out (Nat.le_refl _))
            clear HZ HB
            generalize ((((((((w3.setCell ⟨w.heap.size, 0, none⟩ (.string ⟨#[]⟩)).setCell ⟨w.heap.size, 1, none⟩ (.int .u64 0)).setCell ⟨w.heap.size, 2, none⟩ (.int .u32 0)).setCell ⟨w.heap.size, 3, none⟩ (.int .u8 0)).setCell ⟨w.heap.size, 4, none⟩ (.int .u8 0)).setCell ⟨w.heap.size, 5, none⟩ (.int .u32 0)).setCell ⟨w.heap.size, 6, none⟩ (.int .u64 0)).setCell ⟨w.heap.size, 7, none⟩ (.string ⟨#[]⟩)) = wz at *
            obtain ⟨zz0, zz1, zz2, zz3, zz4, zz5, zz6, zz7, -⟩ := at8 HS.out
            refine bodyPost_ret (by simp [results, Try.results27, go_sem, zz0, zz1, zz2, zz3, zz4, zz5, zz6, zz7]; try rfl) rfl ?_
            exact ⟨by rw [hr]; rfl, HT.out⟩
          · rw [if_neg hb] at hck
            have hv : V k = v := (Prod.ext_iff.1 hck).1.symm
            have hx1 : (C (k + 1)).1 = nx := (Prod.ext_iff.1 (Prod.ext_iff.1 hck).2).1.symm
            have hx2 : (C (k + 1)).2 = 0 := (Prod.ext_iff.1 (Prod.ext_iff.1 hck).2).2.symm
            have c9 : decide (mo k < v) = false := decide_eq_false hb
            clear hb hck
            generalize mo k = mk at *
            generalize (if k < k then V k else 0) = vk at *
            go_wp2_with (fail)
            refine (HGk.out _).mono ?_
            rintro e w3 ⟨rfl, b3⟩
            have cm3 : w3.cell? ⟨bm, k, none⟩ = some (.int .u64 mk) := (b3.cell (p := ⟨bm, k, none⟩) lm).trans cm
            have cn3 : w3.cell? ⟨bn, k, none⟩ = some (.int .u64 vk) := (b3.cell (p := ⟨bn, k, none⟩) ln).trans cn1
            have cn4 : w3.frozen? ⟨bn, k, none⟩ = false := (b3.frozen (p := ⟨bn, k, none⟩) ln).trans cn2
            have hM3 := Lib.hid (show ∀ j, j < 6 → (w3.setCell ⟨bn, k, none⟩ (.int .u64 v)).cell? ⟨bm, j, none⟩ = some (.int .u64 (mo j)) from fun j hj => (World.cell?_setCell_other w3 ⟨bn, k, none⟩ ⟨bm, j, none⟩ _ (by first | (simp; done) | (simp; omega))).trans ((b3.cell (p := ⟨bm, j, none⟩) lm).trans (hM.out j hj)))
            have hN3 := Lib.hid (show ∀ j, j < 6 → (w3.setCell ⟨bn, k, none⟩ (.int .u64 v)).cell? ⟨bn, j, none⟩ = some (.int .u64 (if j < k + 1 then V j else 0)) ∧ (w3.setCell ⟨bn, k, none⟩ (.int .u64 v)).frozen? ⟨bn, j, none⟩ = false from fun j hj => by
              constructor
              · by_cases e : j = k
                · subst e
                  rw [World.cell?_setCell_same w3 _ _ cn3, if_pos (by omega), hv]
                · rw [World.cell?_setCell_other w3 ⟨bn, k, none⟩ ⟨bn, j, none⟩ _ (by first | (simp; done) | (simp; omega)), b3.cell (p := ⟨bn, j, none⟩) ln, (hN.out j hj).1]
                  by_cases q : j < k
                  · rw [if_pos q, if_pos (by omega)]
                  · rw [if_neg q, if_neg (by omega)]
              · rw [World.frozen?_setCell, b3.frozen (p := ⟨bn, j, none⟩) ln]; exact (hN.out j hj).2)
            have hZ3 := Lib.hid (at_set_ne (b' := bn) (i := k) (v := .int .u64 v) (at_below HZ.out b3) (by omega))
            have hB3 := Lib.hid (below_new (b := bn) (i := k) (v := .int .u64 v) (below_on HB.out b3) (by omega))
            have sz3 : w3.heap.size ≤ (w3.setCell ⟨bn, k, none⟩ (.int .u64 v)).heap.size := by simp only [World.setCell, Array.size_modify]; exact Nat.le_refl _
            have sz4 := b3.size
            have dZ : w.heap.size < (w3.setCell ⟨bn, k, none⟩ (.int .u64 v)).heap.size := by omega
            have dM : bm < (w3.setCell ⟨bn, k, none⟩ (.int .u64 v)).heap.size := by omega
            have dN : bn < (w3.setCell ⟨bn, k, none⟩ (.int .u64 v)).heap.size := by omega
            clear b3 hM hN HZ HB cm cn1 cn2 sz3 sz4
            by_cases hk3 : k = 3
            · subst hk3
              by_cases hv3 : v = 3
              · subst hv3
                go_wp2_with (fail)
                exact ⟨⟨4, by omega, by first | rfl | go_num, by rw [hx1], hx2, Or.inr ⟨rfl, by omega, hv⟩, dZ, dM, dN, hM3, hN3, hZ3, hB3⟩, by first | (simp [intOf]; done) | (simp [intOf]; omega)⟩
              · have c8 : (v == 3) = false := beq_eq_false_iff_ne.2 hv3
                go_wp2_with (fail)
                exact ⟨⟨4, by omega, by first | rfl | go_num, by rw [hx1], hx2, Or.inl ⟨rfl, by omega, fun _ => by rw [hv]; exact hv3⟩, dZ, dM, dN, hM3, hN3, hZ3, hB3⟩, by first | (simp [intOf]; done) | (simp [intOf]; omega)⟩
            · have c7 : ((k : Int) == 3) = false := beq_eq_false_iff_ne.2 (by omega)
              go_wp2_with (fail)
              exact ⟨⟨k + 1, by omega, by first | rfl | go_num, by rw [hx1], hx2, Or.inl ⟨rfl, by omega, fun h => by omega⟩, dZ, dM, dN, hM3, hN3, hZ3, hB3⟩, by first | (simp [intOf]; done) | (simp [intOf]; omega)⟩
        · rw [if_pos hf] at hck
          have hr : G = bad f := (hE4.out k f (by omega) hf (by rw [← (Prod.ext_iff.1 (Prod.ext_iff.1 hck).2).2]))
          have c8 : (f != 0) = true := bne_iff_ne.2 hf
          clear hck hf
          go_wp2_with (fail)
          refine (HGk.out _).mono ?_
          rintro e w3 ⟨rfl, b3⟩
          replace HZ := Lib.hid (at_below HZ.out b3)
          replace HB := Lib.hid (below_on HB.out b3)
          clear b3 hM hN
          obtain ⟨y0, y1, y2, y3, y4, y5, y6, y7, w0_, w1_, w2_, w3_, w4_, w5_, w6_, w7_⟩ := at8 HZ.out
          go_wp2_with (fail)
          clear y0 y1 y2 y3 y4 y5 y6 y7 w0_ w1_ w2_ w3_ w4_ w5_ w6_ w7_
          have HS := Lib.hid (at_set8 (v0 := .string ⟨#[]⟩) (v1 := .int .u64 0) (v2 := .int .u32 0) (v3 := .int .u8 0) (v4 := .int .u8 0) (v5 := .int .u32 0) (v6 := .int .u64 0) (v7 := .string ⟨#[]⟩) HZ.out)
          have HT := Lib.hid (below_set8 (v0 := .string ⟨#[]⟩) (v1 := .int .u64 0) (v2 := .int .u32 0) (v3 := .int .u8 0) (v4 := .int .u8 0) (v5 := .int .u32 0) (v6 := .int .u64 0) (v7 := .string ⟨#[]⟩) HB.out (Nat.le_refl _))
          clear HZ HB
          generalize ((((((((w3.setCell ⟨w.heap.size, 0, none⟩ (.string ⟨#[]⟩)).setCell ⟨w.heap.size, 1, none⟩ (.int .u64 0)).setCell ⟨w.heap.size, 2, none⟩ (.int .u32 0)).setCell ⟨w.heap.size, 3, none⟩ (.int .u8 0)).setCell ⟨w.heap.size, 4, none⟩ (.int .u8 0)).setCell ⟨w.heap.size, 5, none⟩ (.int .u32 0)).setCell ⟨w.heap.size, 6, none⟩ (.int .u64 0)).setCell ⟨w.heap.size, 7, none⟩ (.string ⟨#[]⟩)) = wz at *
          obtain ⟨zz0, zz1, zz2, zz3, zz4, zz5, zz6, zz7, -⟩ := at8 HS.out
          refine bodyPost_ret (by simp [results, Try.results27, go_sem, zz0, zz1, zz2, zz3, zz4, zz5, zz6, zz7]; try rfl) rfl ?_
          exact ⟨by rw [hr]; rfl, HT.out⟩
      · obtain rfl : k = 4 := by omega
        have h3 := h43 rfl
        have cl : decide (((4 : Nat) : Int) < 4) = false := by decide
        have hQ := HQ.out
        rw [if_neg h3, hC0, if_neg (by simp), hik] at hQ
        clear hck h43
        have g0 := hV.out 0
        have g1 := hV.out 1
        have g2 := hV.out 2
        have g3 := hV.out 3
        have g4 := hV.out 4
        have g5 := hV.out 5
        simp only [mo] at g0 g1 g2 g3 g4 g5
        obtain ⟨g00, g01⟩ := g0
        obtain ⟨g10, g11⟩ := g1
        obtain ⟨g20, g21⟩ := g2
        obtain ⟨g30, g31⟩ := g3
        obtain ⟨g40, g41⟩ := g4
        obtain ⟨g50, g51⟩ := g5
        have n0 := hN.out 0 (by omega)
        have n1 := hN.out 1 (by omega)
        have n2 := hN.out 2 (by omega)
        have n3 := hN.out 3 (by omega)
        have n4 := hN.out 4 (by omega)
        have n5 := hN.out 5 (by omega)
        rw [if_pos (by omega)] at n0
        rw [if_pos (by omega)] at n1
        rw [if_pos (by omega)] at n2
        rw [if_pos (by omega)] at n3
        rw [if_neg (by omega)] at n4
        rw [if_neg (by omega)] at n5
        obtain ⟨n0, -⟩ := n0
        obtain ⟨n1, -⟩ := n1
        obtain ⟨n2, -⟩ := n2
        obtain ⟨n3, -⟩ := n3
        obtain ⟨n4, -⟩ := n4
        obtain ⟨n5, -⟩ := n5
        have c3 : (V 3 == 3) = false := beq_eq_false_iff_ne.2 h3
        clear hE4 hE6 hV hC HQ h3 hM hN h00 hC0 hik
        generalize V 0 = v0 at *
        generalize V 1 = v1 at *
        generalize V 2 = v2 at *
        generalize V 3 = v3 at *
        generalize V 4 = v4 at *
        generalize V 5 = v5 at *
        have hy := fun W => refMay_any t v0 v1 v2 v3 0 0 ⟨#[]⟩ W (by omega)
        cases hm : mayR t v0 v2 v3 0 0 ⟨#[]⟩
        · rw [hm] at hQ hy
          rw [if_pos rfl] at hQ
          have HY := Lib.hid hy
          clear hy hm
          go_wp2_with (fail)
          have HR := Lib.hid (at_new wr #[.string t, .int .u64 v0, .int .u32 v1, .int .u8 v2, .int .u8 v3, .int .u32 0, .int .u64 0, .string ⟨#[]⟩] 27)
          have lr : wr.heap.size < (wr.alloc (.cells #[.string t, .int .u64 v0, .int .u32 v1, .int .u8 v2, .int .u8 v3, .int .u32 0, .int .u64 0, .string ⟨#[]⟩] 27)).heap.size := At.lt HR.out
          replace HZ := Lib.hid (at_alloc (o := .cells #[.string t, .int .u64 v0, .int .u32 v1, .int .u8 v2, .int .u8 v3, .int .u32 0, .int .u64 0, .string ⟨#[]⟩] 27) HZ.out)
          replace HB := Lib.hid (below_al (o := .cells #[.string t, .int .u64 v0, .int .u32 v1, .int .u8 v2, .int .u8 v3, .int .u32 0, .int .u64 0, .string ⟨#[]⟩] 27) HB.out)
          refine (HY.out _).mono ?_
          rintro e w9 ⟨rfl, b9⟩
          replace HZ := Lib.hid (at_below HZ.out b9)
          replace HR := Lib.hid (at_below HR.out b9)
          replace HB := Lib.hid (below_on HB.out b9)
          clear b9
          obtain ⟨x0, x1, x2, x3, x4, x5, x6, x7, -⟩ := at8 HR.out
          obtain ⟨y0, y1, y2, y3, y4, y5, y6, y7, w0_, w1_, w2_, w3_, w4_, w5_, w6_, w7_⟩ := at8 HZ.out
          go_wp2_with (fail)
          clear x0 x1 x2 x3 x4 x5 x6 x7
          clear y0 y1 y2 y3 y4 y5 y6 y7 w0_ w1_ w2_ w3_ w4_ w5_ w6_ w7_
          have HS := Lib.hid (at_set8 (v0 := .string ⟨#[]⟩) (v1 := .int .u64 0) (v2 := .int .u32 0) (v3 := .int .u8 0) (v4 := .int .u8 0) (v5 := .int .u32 0) (v6 := .int .u64 0) (v7 := .string ⟨#[]⟩) HZ.out)
          have HT := Lib.hid (below_set8 (v0 := .string ⟨#[]⟩) (v1 := .int .u64 0) (v2 := .int .u32 0) (v3 := .int .u8 0) (v4 := .int .u8 0) (v5 := .int .u32 0) (v6 := .int .u64 0) (v7 := .string ⟨#[]⟩) HB.out (Nat.le_refl _))
          clear HZ HB
          generalize ((((((((w9.setCell ⟨w.heap.size, 0, none⟩ (.string ⟨#[]⟩)).setCell ⟨w.heap.size, 1, none⟩ (.int .u64 0)).setCell ⟨w.heap.size, 2, none⟩ (.int .u32 0)).setCell ⟨w.heap.size, 3, none⟩ (.int .u8 0)).setCell ⟨w.heap.size, 4, none⟩ (.int .u8 0)).setCell ⟨w.heap.size, 5, none⟩ (.int .u32 0)).setCell ⟨w.heap.size, 6, none⟩ (.int .u64 0)).setCell ⟨w.heap.size, 7, none⟩ (.string ⟨#[]⟩)) = wz at *
          obtain ⟨zz0, zz1, zz2, zz3, zz4, zz5, zz6, zz7, -⟩ := at8 HS.out
          refine bodyPost_ret (by simp [results, Try.results27, go_sem, zz0, zz1, zz2, zz3, zz4, zz5, zz6, zz7]; try rfl) rfl ?_
          exact ⟨by rw [hQ]; rfl, HT.out⟩
        · rw [hm] at hQ hy
          rw [if_neg (by simp)] at hQ
          have HY := Lib.hid hy
          clear hy hm
          go_wp2_with (fail)
          have HR := Lib.hid (at_new wr #[.string t, .int .u64 v0, .int .u32 v1, .int .u8 v2, .int .u8 v3, .int .u32 0, .int .u64 0, .string ⟨#[]⟩] 27)
          have lr : wr.heap.size < (wr.alloc (.cells #[.string t, .int .u64 v0, .int .u32 v1, .int .u8 v2, .int .u8 v3, .int .u32 0, .int .u64 0, .string ⟨#[]⟩] 27)).heap.size := At.lt HR.out
          replace HZ := Lib.hid (at_alloc (o := .cells #[.string t, .int .u64 v0, .int .u32 v1, .int .u8 v2, .int .u8 v3, .int .u32 0, .int .u64 0, .string ⟨#[]⟩] 27) HZ.out)
          replace HB := Lib.hid (below_al (o := .cells #[.string t, .int .u64 v0, .int .u32 v1, .int .u8 v2, .int .u8 v3, .int .u32 0, .int .u64 0, .string ⟨#[]⟩] 27) HB.out)
          refine (HY.out _).mono ?_
          rintro e w9 ⟨rfl, b9⟩
          replace HZ := Lib.hid (at_below HZ.out b9)
          replace HR := Lib.hid (at_below HR.out b9)
          replace HB := Lib.hid (below_on HB.out b9)
          clear b9
          obtain ⟨x0, x1, x2, x3, x4, x5, x6, x7, -⟩ := at8 HR.out
          obtain ⟨y0, y1, y2, y3, y4, y5, y6, y7, w0_, w1_, w2_, w3_, w4_, w5_, w6_, w7_⟩ := at8 HZ.out
          go_wp2_with (fail)
          clear x0 x1 x2 x3 x4 x5 x6 x7
          clear y0 y1 y2 y3 y4 y5 y6 y7 w0_ w1_ w2_ w3_ w4_ w5_ w6_ w7_
          have HS := Lib.hid (at_set8 (v0 := .string t) (v1 := .int .u64 v0) (v2 := .int .u32 v1) (v3 := .int .u8 v2) (v4 := .int .u8 v3) (v5 := .int .u32 0) (v6 := .int .u64 0) (v7 := .string ⟨#[]⟩) HZ.out)
          have HT := Lib.hid (below_set8 (v0 := .string t) (v1 := .int .u64 v0) (v2 := .int .u32 v1) (v3 := .int .u8 v2) (v4 := .int .u8 v3) (v5 := .int .u32 0) (v6 := .int .u64 0) (v7 := .string ⟨#[]⟩) HB.out (Nat.le_refl _))
          clear HZ HB
          generalize ((((((((w9.setCell ⟨w.heap.size, 0, none⟩ (.string t)).setCell ⟨w.heap.size, 1, none⟩ (.int .u64 v0)).setCell ⟨w.heap.size, 2, none⟩ (.int .u32 v1)).setCell ⟨w.heap.size, 3, none⟩ (.int .u8 v2)).setCell ⟨w.heap.size, 4, none⟩ (.int .u8 v3)).setCell ⟨w.heap.size, 5, none⟩ (.int .u32 0)).setCell ⟨w.heap.size, 6, none⟩ (.int .u64 0)).setCell ⟨w.heap.size, 7, none⟩ (.string ⟨#[]⟩)) = wz at *
          obtain ⟨zz0, zz1, zz2, zz3, zz4, zz5, zz6, zz7, -⟩ := at8 HS.out
          refine bodyPost_ret (by simp [results, Try.results27, go_sem, zz0, zz1, zz2, zz3, zz4, zz5, zz6, zz7]; try rfl) rfl ?_
          exact ⟨by rw [hQ]; rfl, HT.out⟩
    · by_cases hlt : k < 6
      · have cl : decide ((k : Int) < 6) = true := decide_eq_true (by omega)
        by_cases hf : f = 0
        · subst hf
          rw [if_neg (by simp)] at hck
          have cm := hM.out k (by omega)
          have cn := hN.out k (by omega)
          obtain ⟨cn1, cn2⟩ := cn
          by_cases hb : mo k < v
          · rw [if_pos hb] at hck
            have hr : G = bad 3 := (hE6.out (k + 1) 3 (by omega) h33 (by rw [← (Prod.ext_iff.1 (Prod.ext_iff.1 hck).2).2]) (by decide))
            have c9 : decide (mo k < v) = true := decide_eq_true hb
            clear hb hck
            generalize mo k = mk at *
            clear cn1 cn2
            go_wp2_with (fail)
            refine (HGk.out _).mono ?_
            rintro e w3 ⟨rfl, b3⟩
            have cm3 : w3.cell? ⟨bm, k, none⟩ = some (.int .u64 mk) := (b3.cell (p := ⟨bm, k, none⟩) lm).trans cm
            replace HZ := Lib.hid (at_below HZ.out b3)
            replace HB := Lib.hid (below_on HB.out b3)
            clear cm b3 hM hN
            obtain ⟨y0, y1, y2, y3, y4, y5, y6, y7, w0_, w1_, w2_, w3_, w4_, w5_, w6_, w7_⟩ := at8 HZ.out
            go_wp2_with (fail)
            clear y0 y1 y2 y3 y4 y5 y6 y7 w0_ w1_ w2_ w3_ w4_ w5_ w6_ w7_
            have HS := Lib.hid (at_set8 (v0 := .string ⟨#[]⟩) (v1 := .int .u64 0) (v2 := .int .u32 0) (v3 := .int .u8 0) (v4 := .int .u8 0) (v5 := .int .u32 0) (v6 := .int .u64 0) (v7 := .string ⟨#[]⟩) HZ.out)
            have HT := Lib.hid (below_set8 (v0 := .string ⟨#[]⟩) (v1 := .int .u64 0) (v2 := .int .u32 0) (v3 := .int .u8 0) (v4 := .int .u8 0) (v5 := .int .u32 0) (v6 := .int .u64 0) (v7 := .string ⟨#[]⟩) HB.out (Nat.le_refl _))
            clear HZ HB
            generalize ((((((((w3.setCell ⟨w.heap.size, 0, none⟩ (.string ⟨#[]⟩)).setCell ⟨w.heap.size, 1, none⟩ (.int .u64 0)).setCell ⟨w.heap.size, 2, none⟩ (.int .u32 0)).setCell ⟨w.heap.size, 3, none⟩ (.int .u8 0)).setCell ⟨w.heap.size, 4, none⟩ (.int .u8 0)).setCell ⟨w.heap.size, 5, none⟩ (.int .u32 0)).setCell ⟨w.heap.size, 6, none⟩ (.int .u64 0)).setCell ⟨w.heap.size, 7, none⟩ (.string ⟨#[]⟩)) = wz at *
            obtain ⟨zz0, zz1, zz2, zz3, zz4, zz5, zz6, zz7, -⟩ := at8 HS.out
            refine bodyPost_ret (by simp [results, Try.results27, go_sem, zz0, zz1, zz2, zz3, zz4, zz5, zz6, zz7]; try rfl) rfl ?_
            exact ⟨by rw [hr]; rfl, HT.out⟩
          · rw [if_neg hb] at hck
            have hv : V k = v := (Prod.ext_iff.1 hck).1.symm
            have hx1 : (C (k + 1)).1 = nx := (Prod.ext_iff.1 (Prod.ext_iff.1 hck).2).1.symm
            have hx2 : (C (k + 1)).2 = 0 := (Prod.ext_iff.1 (Prod.ext_iff.1 hck).2).2.symm
            have c9 : decide (mo k < v) = false := decide_eq_false hb
            clear hb hck
            generalize mo k = mk at *
            generalize (if k < k then V k else 0) = vk at *
            go_wp2_with (fail)
            refine (HGk.out _).mono ?_
            rintro e w3 ⟨rfl, b3⟩
            have cm3 : w3.cell? ⟨bm, k, none⟩ = some (.int .u64 mk) := (b3.cell (p := ⟨bm, k, none⟩) lm).trans cm
            have cn3 : w3.cell? ⟨bn, k, none⟩ = some (.int .u64 vk) := (b3.cell (p := ⟨bn, k, none⟩) ln).trans cn1
            have cn4 : w3.frozen? ⟨bn, k, none⟩ = false := (b3.frozen (p := ⟨bn, k, none⟩) ln).trans cn2
            have hM3 := Lib.hid (show ∀ j, j < 6 → (w3.setCell ⟨bn, k, none⟩ (.int .u64 v)).cell? ⟨bm, j, none⟩ = some (.int .u64 (mo j)) from fun j hj => (World.cell?_setCell_other w3 ⟨bn, k, none⟩ ⟨bm, j, none⟩ _ (by first | (simp; done) | (simp; omega))).trans ((b3.cell (p := ⟨bm, j, none⟩) lm).trans (hM.out j hj)))
            have hN3 := Lib.hid (show ∀ j, j < 6 → (w3.setCell ⟨bn, k, none⟩ (.int .u64 v)).cell? ⟨bn, j, none⟩ = some (.int .u64 (if j < k + 1 then V j else 0)) ∧ (w3.setCell ⟨bn, k, none⟩ (.int .u64 v)).frozen? ⟨bn, j, none⟩ = false from fun j hj => by
              constructor
              · by_cases e : j = k
                · subst e
                  rw [World.cell?_setCell_same w3 _ _ cn3, if_pos (by omega), hv]
                · rw [World.cell?_setCell_other w3 ⟨bn, k, none⟩ ⟨bn, j, none⟩ _ (by first | (simp; done) | (simp; omega)), b3.cell (p := ⟨bn, j, none⟩) ln, (hN.out j hj).1]
                  by_cases q : j < k
                  · rw [if_pos q, if_pos (by omega)]
                  · rw [if_neg q, if_neg (by omega)]
              · rw [World.frozen?_setCell, b3.frozen (p := ⟨bn, j, none⟩) ln]; exact (hN.out j hj).2)
            have hZ3 := Lib.hid (at_set_ne (b' := bn) (i := k) (v := .int .u64 v) (at_below HZ.out b3) (by omega))
            have hB3 := Lib.hid (below_new (b := bn) (i := k) (v := .int .u64 v) (below_on HB.out b3) (by omega))
            have sz3 : w3.heap.size ≤ (w3.setCell ⟨bn, k, none⟩ (.int .u64 v)).heap.size := by simp only [World.setCell, Array.size_modify]; exact Nat.le_refl _
            have sz4 := b3.size
            have dZ : w.heap.size < (w3.setCell ⟨bn, k, none⟩ (.int .u64 v)).heap.size := by omega
            have dM : bm < (w3.setCell ⟨bn, k, none⟩ (.int .u64 v)).heap.size := by omega
            have dN : bn < (w3.setCell ⟨bn, k, none⟩ (.int .u64 v)).heap.size := by omega
            clear b3 hM hN HZ HB cm cn1 cn2 sz3 sz4
            have c7 : ((k : Int) == 3) = false := beq_eq_false_iff_ne.2 (by omega)
            go_wp2_with (fail)
            exact ⟨⟨k + 1, by omega, by first | rfl | go_num, by rw [hx1], hx2, Or.inr ⟨rfl, by omega, h33⟩, dZ, dM, dN, hM3, hN3, hZ3, hB3⟩, by first | (simp [intOf]; done) | (simp [intOf]; omega)⟩
        · rw [if_pos hf] at hck
          have hr : G = bad f := (hE6.out (k + 1) f (by omega) h33 (by rw [← (Prod.ext_iff.1 (Prod.ext_iff.1 hck).2).2]) hf)
          have c8 : (f != 0) = true := bne_iff_ne.2 hf
          clear hck hf
          go_wp2_with (fail)
          refine (HGk.out _).mono ?_
          rintro e w3 ⟨rfl, b3⟩
          replace HZ := Lib.hid (at_below HZ.out b3)
          replace HB := Lib.hid (below_on HB.out b3)
          clear b3 hM hN
          obtain ⟨y0, y1, y2, y3, y4, y5, y6, y7, w0_, w1_, w2_, w3_, w4_, w5_, w6_, w7_⟩ := at8 HZ.out
          go_wp2_with (fail)
          clear y0 y1 y2 y3 y4 y5 y6 y7 w0_ w1_ w2_ w3_ w4_ w5_ w6_ w7_
          have HS := Lib.hid (at_set8 (v0 := .string ⟨#[]⟩) (v1 := .int .u64 0) (v2 := .int .u32 0) (v3 := .int .u8 0) (v4 := .int .u8 0) (v5 := .int .u32 0) (v6 := .int .u64 0) (v7 := .string ⟨#[]⟩) HZ.out)
          have HT := Lib.hid (below_set8 (v0 := .string ⟨#[]⟩) (v1 := .int .u64 0) (v2 := .int .u32 0) (v3 := .int .u8 0) (v4 := .int .u8 0) (v5 := .int .u32 0) (v6 := .int .u64 0) (v7 := .string ⟨#[]⟩) HB.out (Nat.le_refl _))
          clear HZ HB
          generalize ((((((((w3.setCell ⟨w.heap.size, 0, none⟩ (.string ⟨#[]⟩)).setCell ⟨w.heap.size, 1, none⟩ (.int .u64 0)).setCell ⟨w.heap.size, 2, none⟩ (.int .u32 0)).setCell ⟨w.heap.size, 3, none⟩ (.int .u8 0)).setCell ⟨w.heap.size, 4, none⟩ (.int .u8 0)).setCell ⟨w.heap.size, 5, none⟩ (.int .u32 0)).setCell ⟨w.heap.size, 6, none⟩ (.int .u64 0)).setCell ⟨w.heap.size, 7, none⟩ (.string ⟨#[]⟩)) = wz at *
          obtain ⟨zz0, zz1, zz2, zz3, zz4, zz5, zz6, zz7, -⟩ := at8 HS.out
          refine bodyPost_ret (by simp [results, Try.results27, go_sem, zz0, zz1, zz2, zz3, zz4, zz5, zz6, zz7]; try rfl) rfl ?_
          exact ⟨by rw [hr]; rfl, HT.out⟩
      · obtain rfl : k = 6 := by omega
        have cl : decide (((6 : Nat) : Int) < 6) = false := by decide
        have hQ := HQ.out
        rw [if_pos h33, hC0, hik] at hQ
        clear hck
        have g0 := hV.out 0
        have g1 := hV.out 1
        have g2 := hV.out 2
        have g3 := hV.out 3
        have g4 := hV.out 4
        have g5 := hV.out 5
        simp only [mo] at g0 g1 g2 g3 g4 g5
        obtain ⟨g00, g01⟩ := g0
        obtain ⟨g10, g11⟩ := g1
        obtain ⟨g20, g21⟩ := g2
        obtain ⟨g30, g31⟩ := g3
        obtain ⟨g40, g41⟩ := g4
        obtain ⟨g50, g51⟩ := g5
        have n0 := hN.out 0 (by omega)
        have n1 := hN.out 1 (by omega)
        have n2 := hN.out 2 (by omega)
        have n3 := hN.out 3 (by omega)
        have n4 := hN.out 4 (by omega)
        have n5 := hN.out 5 (by omega)
        rw [if_pos (by omega)] at n0
        rw [if_pos (by omega)] at n1
        rw [if_pos (by omega)] at n2
        rw [if_pos (by omega)] at n3
        rw [if_pos (by omega)] at n4
        rw [if_pos (by omega)] at n5
        obtain ⟨n0, -⟩ := n0
        obtain ⟨n1, -⟩ := n1
        obtain ⟨n2, -⟩ := n2
        obtain ⟨n3, -⟩ := n3
        obtain ⟨n4, -⟩ := n4
        obtain ⟨n5, -⟩ := n5
        have c3 : (V 3 == 3) = true := beq_iff_eq.2 h33
        clear hE4 hE6 hV hC HQ h33 hM hN h00 hC0 hik
        obtain ⟨b, p8, f8, hb8⟩ : ∃ b p8 f8, textS s ik 1024 = (b, p8, f8) := ⟨_, _, _, rfl⟩
        have hT2 := fun W => Num.refGetText_any s ik 1024 W hsm (by decide)
        rw [hb8] at hT2
        simp only [Num.textV] at hT2
        have HT2_ := Lib.hid hT2
        clear hT2
        generalize V 0 = v0 at *
        generalize V 1 = v1 at *
        generalize V 2 = v2 at *
        generalize V 3 = v3 at *
        generalize V 4 = v4 at *
        generalize V 5 = v5 at *
        by_cases hf8 : f8 = 0
        · subst hf8
          have hr8 : rdT s ik 0 1024 = (b, p8, 0) := by
            unfold rdT
            rw [if_neg (by simp), hb8, if_neg (by simp)]
          rw [hr8, if_neg (by simp)] at hQ
          (try simp only [] at hQ)
          clear hr8
          have zb8 : True := trivial
          clear hb8
          have hy := fun W => refMay_any t v0 v1 v2 v3 v4 v5 b W (by omega)
          cases hm : mayR t v0 v2 v3 v4 v5 b
          · rw [hm] at hQ hy
            rw [if_pos rfl] at hQ
            have HY := Lib.hid hy
            clear hy hm
            go_wp2_with (fail)
            have HR := Lib.hid (at_new wr #[.string t, .int .u64 v0, .int .u32 v1, .int .u8 v2, .int .u8 v3, .int .u32 v4, .int .u64 v5, .string ⟨#[]⟩] 27)
            have lr : w.heap.size < wr.heap.size := lw
            replace HZ := Lib.hid (at_alloc (o := .cells #[.string t, .int .u64 v0, .int .u32 v1, .int .u8 v2, .int .u8 v3, .int .u32 v4, .int .u64 v5, .string ⟨#[]⟩] 27) HZ.out)
            replace HB := Lib.hid (below_al (o := .cells #[.string t, .int .u64 v0, .int .u32 v1, .int .u8 v2, .int .u8 v3, .int .u32 v4, .int .u64 v5, .string ⟨#[]⟩] 27) HB.out)
            have hN3 : (wr.alloc (.cells #[.string t, .int .u64 v0, .int .u32 v1, .int .u8 v2, .int .u8 v3, .int .u32 v4, .int .u64 v5, .string ⟨#[]⟩] 27)).cell? ⟨bn, 3, none⟩ = some (.int .u64 v3) := (World.cell?_alloc_lt _ _ _ ln).trans n3
            have ln2 : bn < (wr.alloc (.cells #[.string t, .int .u64 v0, .int .u32 v1, .int .u8 v2, .int .u8 v3, .int .u32 v4, .int .u64 v5, .string ⟨#[]⟩] 27)).heap.size := by rw [World.size_alloc]; omega
            refine (HT2_.out _).mono ?_
            rintro e w5 ⟨rfl, b5⟩
            have hN5 : w5.cell? ⟨bn, 3, none⟩ = some (.int .u64 v3) := (b5.cell (p := ⟨bn, 3, none⟩) ln2).trans hN3
            replace HZ := Lib.hid (at_below HZ.out b5)
            replace HR := Lib.hid (at_below HR.out b5)
            replace HB := Lib.hid (below_on HB.out b5)
            clear b5 hN3 n0 n1 n2 n3 n4 n5
            generalize wr.heap.size = r at *
            obtain ⟨x0, x1, x2, x3, x4, x5, x6, x7, s0_, s1_, s2_, s3_, s4_, s5_, s6_, s7_⟩ := at8 HR.out
            go_wp2_with (fail)
            clear x0 x1 x2 x3 x4 x5 x6 x7 s0_ s1_ s2_ s3_ s4_ s5_ s6_ s7_ hN5
            replace HR : Hid (At (w5.setCell ⟨r, 7, none⟩ (.string b)) r #[.string t, .int .u64 v0, .int .u32 v1, .int .u8 v2, .int .u8 v3, .int .u32 v4, .int .u64 v5, .string b] 27) := Lib.hid (at_set' HR.out rfl)
            replace HZ := Lib.hid (at_set_ne (b' := r) (i := 7) (v := .string b) HZ.out (by omega))
            replace HB := Lib.hid (below_new (b := r) (i := 7) (v := .string b) HB.out (by omega))
            generalize w5.setCell ⟨r, 7, none⟩ (.string b) = w6 at *
            refine (HY.out _).mono ?_
            rintro e w9 ⟨rfl, b9⟩
            replace HZ := Lib.hid (at_below HZ.out b9)
            replace HR := Lib.hid (at_below HR.out b9)
            replace HB := Lib.hid (below_on HB.out b9)
            clear b9
            obtain ⟨x0, x1, x2, x3, x4, x5, x6, x7, -⟩ := at8 HR.out
            obtain ⟨y0, y1, y2, y3, y4, y5, y6, y7, w0_, w1_, w2_, w3_, w4_, w5_, w6_, w7_⟩ := at8 HZ.out
            go_wp2_with (fail)
            clear x0 x1 x2 x3 x4 x5 x6 x7
            clear y0 y1 y2 y3 y4 y5 y6 y7 w0_ w1_ w2_ w3_ w4_ w5_ w6_ w7_
            have HS := Lib.hid (at_set8 (v0 := .string ⟨#[]⟩) (v1 := .int .u64 0) (v2 := .int .u32 0) (v3 := .int .u8 0) (v4 := .int .u8 0) (v5 := .int .u32 0) (v6 := .int .u64 0) (v7 := .string ⟨#[]⟩) HZ.out)
            have HT := Lib.hid (below_set8 (v0 := .string ⟨#[]⟩) (v1 := .int .u64 0) (v2 := .int .u32 0) (v3 := .int .u8 0) (v4 := .int .u8 0) (v5 := .int .u32 0) (v6 := .int .u64 0) (v7 := .string ⟨#[]⟩) HB.out (Nat.le_refl _))
            clear HZ HB
            generalize ((((((((w9.setCell ⟨w.heap.size, 0, none⟩ (.string ⟨#[]⟩)).setCell ⟨w.heap.size, 1, none⟩ (.int .u64 0)).setCell ⟨w.heap.size, 2, none⟩ (.int .u32 0)).setCell ⟨w.heap.size, 3, none⟩ (.int .u8 0)).setCell ⟨w.heap.size, 4, none⟩ (.int .u8 0)).setCell ⟨w.heap.size, 5, none⟩ (.int .u32 0)).setCell ⟨w.heap.size, 6, none⟩ (.int .u64 0)).setCell ⟨w.heap.size, 7, none⟩ (.string ⟨#[]⟩)) = wz at *
            obtain ⟨zz0, zz1, zz2, zz3, zz4, zz5, zz6, zz7, -⟩ := at8 HS.out
            refine bodyPost_ret (by simp [results, Try.results27, go_sem, zz0, zz1, zz2, zz3, zz4, zz5, zz6, zz7]; try rfl) rfl ?_
            exact ⟨by rw [hQ]; rfl, HT.out⟩
          · rw [hm] at hQ hy
            rw [if_neg (by simp)] at hQ
            have HY := Lib.hid hy
            clear hy hm
            go_wp2_with (fail)
            have HR := Lib.hid (at_new wr #[.string t, .int .u64 v0, .int .u32 v1, .int .u8 v2, .int .u8 v3, .int .u32 v4, .int .u64 v5, .string ⟨#[]⟩] 27)
            have lr : w.heap.size < wr.heap.size := lw
            replace HZ := Lib.hid (at_alloc (o := .cells #[.string t, .int .u64 v0, .int .u32 v1, .int .u8 v2, .int .u8 v3, .int .u32 v4, .int .u64 v5, .string ⟨#[]⟩] 27) HZ.out)
            replace HB := Lib.hid (below_al (o := .cells #[.string t, .int .u64 v0, .int .u32 v1, .int .u8 v2, .int .u8 v3, .int .u32 v4, .int .u64 v5, .string ⟨#[]⟩] 27) HB.out)
            have hN3 : (wr.alloc (.cells #[.string t, .int .u64 v0, .int .u32 v1, .int .u8 v2, .int .u8 v3, .int .u32 v4, .int .u64 v5, .string ⟨#[]⟩] 27)).cell? ⟨bn, 3, none⟩ = some (.int .u64 v3) := (World.cell?_alloc_lt _ _ _ ln).trans n3
            have ln2 : bn < (wr.alloc (.cells #[.string t, .int .u64 v0, .int .u32 v1, .int .u8 v2, .int .u8 v3, .int .u32 v4, .int .u64 v5, .string ⟨#[]⟩] 27)).heap.size := by rw [World.size_alloc]; omega
            refine (HT2_.out _).mono ?_
            rintro e w5 ⟨rfl, b5⟩
            have hN5 : w5.cell? ⟨bn, 3, none⟩ = some (.int .u64 v3) := (b5.cell (p := ⟨bn, 3, none⟩) ln2).trans hN3
            replace HZ := Lib.hid (at_below HZ.out b5)
            replace HR := Lib.hid (at_below HR.out b5)
            replace HB := Lib.hid (below_on HB.out b5)
            clear b5 hN3 n0 n1 n2 n3 n4 n5
            generalize wr.heap.size = r at *
            obtain ⟨x0, x1, x2, x3, x4, x5, x6, x7, s0_, s1_, s2_, s3_, s4_, s5_, s6_, s7_⟩ := at8 HR.out
            go_wp2_with (fail)
            clear x0 x1 x2 x3 x4 x5 x6 x7 s0_ s1_ s2_ s3_ s4_ s5_ s6_ s7_ hN5
            replace HR : Hid (At (w5.setCell ⟨r, 7, none⟩ (.string b)) r #[.string t, .int .u64 v0, .int .u32 v1, .int .u8 v2, .int .u8 v3, .int .u32 v4, .int .u64 v5, .string b] 27) := Lib.hid (at_set' HR.out rfl)
            replace HZ := Lib.hid (at_set_ne (b' := r) (i := 7) (v := .string b) HZ.out (by omega))
            replace HB := Lib.hid (below_new (b := r) (i := 7) (v := .string b) HB.out (by omega))
            generalize w5.setCell ⟨r, 7, none⟩ (.string b) = w6 at *
            refine (HY.out _).mono ?_
            rintro e w9 ⟨rfl, b9⟩
            replace HZ := Lib.hid (at_below HZ.out b9)
            replace HR := Lib.hid (at_below HR.out b9)
            replace HB := Lib.hid (below_on HB.out b9)
            clear b9
            obtain ⟨x0, x1, x2, x3, x4, x5, x6, x7, -⟩ := at8 HR.out
            obtain ⟨y0, y1, y2, y3, y4, y5, y6, y7, w0_, w1_, w2_, w3_, w4_, w5_, w6_, w7_⟩ := at8 HZ.out
            go_wp2_with (fail)
            clear x0 x1 x2 x3 x4 x5 x6 x7
            clear y0 y1 y2 y3 y4 y5 y6 y7 w0_ w1_ w2_ w3_ w4_ w5_ w6_ w7_
            have HS := Lib.hid (at_set8 (v0 := .string t) (v1 := .int .u64 v0) (v2 := .int .u32 v1) (v3 := .int .u8 v2) (v4 := .int .u8 v3) (v5 := .int .u32 v4) (v6 := .int .u64 v5) (v7 := .string b) HZ.out)
            have HT := Lib.hid (below_set8 (v0 := .string t) (v1 := .int .u64 v0) (v2 := .int .u32 v1) (v3 := .int .u8 v2) (v4 := .int .u8 v3) (v5 := .int .u32 v4) (v6 := .int .u64 v5) (v7 := .string b) HB.out (Nat.le_refl _))
            clear HZ HB
            generalize ((((((((w9.setCell ⟨w.heap.size, 0, none⟩ (.string t)).setCell ⟨w.heap.size, 1, none⟩ (.int .u64 v0)).setCell ⟨w.heap.size, 2, none⟩ (.int .u32 v1)).setCell ⟨w.heap.size, 3, none⟩ (.int .u8 v2)).setCell ⟨w.heap.size, 4, none⟩ (.int .u8 v3)).setCell ⟨w.heap.size, 5, none⟩ (.int .u32 v4)).setCell ⟨w.heap.size, 6, none⟩ (.int .u64 v5)).setCell ⟨w.heap.size, 7, none⟩ (.string b)) = wz at *
            obtain ⟨zz0, zz1, zz2, zz3, zz4, zz5, zz6, zz7, -⟩ := at8 HS.out
            refine bodyPost_ret (by simp [results, Try.results27, go_sem, zz0, zz1, zz2, zz3, zz4, zz5, zz6, zz7]; try rfl) rfl ?_
            exact ⟨by rw [hQ]; rfl, HT.out⟩
        · have hr8 : rdT s ik 0 1024 = (⟨#[]⟩, ik, f8) := by
            unfold rdT
            rw [if_neg (by simp), hb8, if_pos (by simpa using hf8)]
          rw [hr8, if_pos (by simpa using hf8)] at hQ
          (try simp only [] at hQ)
          clear hr8 hb8
          have c8 : (f8 != 0) = true := bne_iff_ne.2 hf8
          clear hf8
          go_wp2_with (fail)
          replace HZ := Lib.hid (at_alloc (o := .cells #[.string t, .int .u64 v0, .int .u32 v1, .int .u8 v2, .int .u8 v3, .int .u32 v4, .int .u64 v5, .string ⟨#[]⟩] 27) HZ.out)
          replace HB := Lib.hid (below_al (o := .cells #[.string t, .int .u64 v0, .int .u32 v1, .int .u8 v2, .int .u8 v3, .int .u32 v4, .int .u64 v5, .string ⟨#[]⟩] 27) HB.out)
          refine (HT2_.out _).mono ?_
          rintro e w5 ⟨rfl, b5⟩
          replace HZ := Lib.hid (at_below HZ.out b5)
          replace HB := Lib.hid (below_on HB.out b5)
          clear b5
          obtain ⟨y0, y1, y2, y3, y4, y5, y6, y7, w0_, w1_, w2_, w3_, w4_, w5_, w6_, w7_⟩ := at8 HZ.out
          go_wp2_with (fail)
          clear y0 y1 y2 y3 y4 y5 y6 y7 w0_ w1_ w2_ w3_ w4_ w5_ w6_ w7_
          have HS := Lib.hid (at_set8 (v0 := .string ⟨#[]⟩) (v1 := .int .u64 0) (v2 := .int .u32 0) (v3 := .int .u8 0) (v4 := .int .u8 0) (v5 := .int .u32 0) (v6 := .int .u64 0) (v7 := .string ⟨#[]⟩) HZ.out)
          have HT := Lib.hid (below_set8 (v0 := .string ⟨#[]⟩) (v1 := .int .u64 0) (v2 := .int .u32 0) (v3 := .int .u8 0) (v4 := .int .u8 0) (v5 := .int .u32 0) (v6 := .int .u64 0) (v7 := .string ⟨#[]⟩) HB.out (Nat.le_refl _))
          clear HZ HB
          generalize ((((((((w5.setCell ⟨w.heap.size, 0, none⟩ (.string ⟨#[]⟩)).setCell ⟨w.heap.size, 1, none⟩ (.int .u64 0)).setCell ⟨w.heap.size, 2, none⟩ (.int .u32 0)).setCell ⟨w.heap.size, 3, none⟩ (.int .u8 0)).setCell ⟨w.heap.size, 4, none⟩ (.int .u8 0)).setCell ⟨w.heap.size, 5, none⟩ (.int .u32 0)).setCell ⟨w.heap.size, 6, none⟩ (.int .u64 0)).setCell ⟨w.heap.size, 7, none⟩ (.string ⟨#[]⟩)) = wz at *
          obtain ⟨zz0, zz1, zz2, zz3, zz4, zz5, zz6, zz7, -⟩ := at8 HS.out
          refine bodyPost_ret (by simp [results, Try.results27, go_sem, zz0, zz1, zz2, zz3, zz4, zz5, zz6, zz7]; try rfl) rfl ?_
          exact ⟨by rw [hQ]; rfl, HT.out⟩
end Go.Proofs.Ytlohnhjfdmldnaa.Rec

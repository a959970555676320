/- The program's Get of records (own text; printed by wip/tools/gen_recget.py, a program of this session). -/
import Derived.Test.YtlohnhjfdmldnaaRecRead
import Derived.Test.YtlohnhjfdmldnaaRecMayA
import Derived.Test.YtlohnhjfdmldnaaSets
import Derived.Deep.Cut
namespace Go.Proofs.Ytlohnhjfdmldnaa.Rec
open Go.Proofs.Ytlohnhjfdmldnaa Go.RowKit Go.Proofs.Ytlohnhjfdmldnaa.Mem
open Go.Proofs.Ytlohnhjfdmldnaa.Num (getS textS)
set_option linter.unusedVariables false
set_option linter.unusedSimpArgs false
theorem rdN_range (s : ByteArray) (a e m : Int) (hm : 0 ≤ m) : 0 ≤ (rdN s a e m).1 ∧ (rdN s a e m).1 ≤ m := by
  have := Num.getS_range s a
  unfold rdN
  (repeat' split) <;> simp only [] <;> omega
theorem rdT_size (s : ByteArray) (a e m : Int) : (rdT s a e m).1.size ≤ s.size := by
  unfold rdT
  split
  · exact Nat.zero_le _
  split
  · exact Nat.zero_le _
  · show (textS s a m).1.size ≤ s.size
    rw [Num.textS_of]
    unfold Num.textOf
    (repeat' split) <;> first | exact Nat.zero_le _ | (rw [ByteArray.size_extract]; omega)
def recV (k : ByteArray) (p l n d f x : Int) (b : ByteArray) (at' e : Int) : Value := .tuple #[.agg #[.string k, .int .u64 p, .int .u32 l, .int .u8 n, .int .u8 d, .int .u32 f, .int .u64 x, .string b], .int .i64 at', .int .i64 e]
set_option maxRecDepth 100000 in
set_option maxHeartbeats 3200000 in
theorem get_mE (s : ByteArray) (a : Int) (w : World) (hs : s.size ≤ 900000) (k : ByteArray) (p l n d : Int) (a1 e1 a2 e2 a3 e3 a4 e4 a5 e5 : Int) (g0 : rdT s a 0 250 = (k, a1, e1)) (g1 : rdN s a1 e1 18446744073709551615 = (p, a2, e2)) (g2 : rdN s a2 e2 4294967295 = (l, a3, e3)) (g3 : rdN s a3 e3 255 = (n, a4, e4)) (g4 : rdN s a4 e4 255 = (d, a5, e5)) (hd : ¬ d = 3) (he : ¬ e5 = 0) :
    Calls Try.prog 26 #[.string s, .int .i64 a] w fun e w' => e = .returned (recV ⟨#[]⟩ 0 0 0 0 0 0 ⟨#[]⟩ 0 e5) ∧ Below w.heap.size w w' := by
  have hsm : s.size ≤ maxLen := by unfold maxLen; omega
  have N0 := Lib.hid (fun (b : Nat) (W : World) (h : At W b (rdr s a 0) 67) => text_rd b s a 0 250 W h hsm (by decide))
  have kz := rdT_size s a 0 250
  rw [g0] at N0 kz
  have N1 := Lib.hid (fun (b : Nat) (W : World) (h : At W b (rdr s a1 e1) 67) => number_any b s a1 e1 18446744073709551615 W h hsm)
  have r1 := rdN_range s a1 e1 18446744073709551615 (by decide)
  rw [g1] at N1 r1
  have N2 := Lib.hid (fun (b : Nat) (W : World) (h : At W b (rdr s a2 e2) 67) => number_any b s a2 e2 4294967295 W h hsm)
  have r2 := rdN_range s a2 e2 4294967295 (by decide)
  rw [g2] at N2 r2
  have N3 := Lib.hid (fun (b : Nat) (W : World) (h : At W b (rdr s a3 e3) 67) => number_any b s a3 e3 255 W h hsm)
  have r3 := rdN_range s a3 e3 255 (by decide)
  rw [g3] at N3 r3
  have N4 := Lib.hid (fun (b : Nat) (W : World) (h : At W b (rdr s a4 e4) 67) => number_any b s a4 e4 255 W h hsm)
  have r4 := rdN_range s a4 e4 255 (by decide)
  rw [g4] at N4 r4
  simp only [] at kz r1 r2 r3 r4
  obtain ⟨r10, r11⟩ := r1
  obtain ⟨r20, r21⟩ := r2
  obtain ⟨r30, r31⟩ := r3
  obtain ⟨r40, r41⟩ := r4
  have cd : (d == 3) = false := beq_eq_false_iff_ne.2 hd
  have ce : (e5 != 0) = true := bne_iff_ne.2 he
  clear g0 g1 g2 g3 g4 he hd
  go_enter Try.func26, Try.ntmps26
  go_wp2_with (fail)
  have H4 := Lib.hid (at_alloc (o := .cells (rdr s a 0) 67) (at_new w #[.string ⟨#[]⟩, .int .u64 0, .int .u32 0, .int .u8 0, .int .u8 0, .int .u32 0, .int .u64 0, .string ⟨#[]⟩] 27))
  have HX := Lib.hid (at_new (w.alloc (.cells #[.string ⟨#[]⟩, .int .u64 0, .int .u32 0, .int .u8 0, .int .u8 0, .int .u32 0, .int .u64 0, .string ⟨#[]⟩] 27)) (rdr s a 0) 67)
  have HB := Lib.hid (below_al (o := .cells (rdr s a 0) 67) (below_al (o := .cells #[.string ⟨#[]⟩, .int .u64 0, .int .u32 0, .int .u8 0, .int .u8 0, .int .u32 0, .int .u64 0, .string ⟨#[]⟩] 27) (Below.refl w.heap.size w)))
  rw [World.size_alloc] at HX
  have nx : w.heap.size ≠ w.heap.size + 1 := by omega
  refine (N0.out _ _ HX.out).mono ?_
  rintro e w1 ⟨rfl, hx, c1⟩
  have HX1 := Lib.hid hx
  replace H4 := Lib.hid (at_chg H4.out c1 nx)
  replace HB := Lib.hid (below_chg HB.out c1 (fun i h => by omega))
  have lx : w.heap.size + 1 < w1.heap.size := At.lt hx
  clear hx c1 HX
  have HX := HX1
  clear HX1
  (try simp only [] at HX)
  go_wp2_with (fail)
  have HR := Lib.hid (at_new w1 #[.string k, .int .u64 0, .int .u32 0, .int .u8 0, .int .u8 0, .int .u32 0, .int .u64 0, .string ⟨#[]⟩] 27)
  replace H4 := Lib.hid (at_alloc (o := .cells #[.string k, .int .u64 0, .int .u32 0, .int .u8 0, .int .u8 0, .int .u32 0, .int .u64 0, .string ⟨#[]⟩] 27) H4.out)
  replace HX := Lib.hid (at_alloc (o := .cells #[.string k, .int .u64 0, .int .u32 0, .int .u8 0, .int .u8 0, .int .u32 0, .int .u64 0, .string ⟨#[]⟩] 27) HX.out)
  replace HB := Lib.hid (below_al (o := .cells #[.string k, .int .u64 0, .int .u32 0, .int .u8 0, .int .u8 0, .int .u32 0, .int .u64 0, .string ⟨#[]⟩] 27) HB.out)
  generalize w1.alloc (.cells #[.string k, .int .u64 0, .int .u32 0, .int .u8 0, .int .u8 0, .int .u32 0, .int .u64 0, .string ⟨#[]⟩] 27) = v0 at *
  generalize w1.heap.size = r at *
  have rx : r ≠ w.heap.size + 1 := by omega
  have r4 : w.heap.size ≠ r := by omega
  have rw' : w.heap.size ≤ r := by omega
  refine (N1.out _ _ HX.out).mono ?_
  rintro e u1 ⟨rfl, hx, c1⟩
  replace HX := Lib.hid hx
  replace H4 := Lib.hid (at_chg H4.out c1 nx)
  replace HR := Lib.hid (at_chg HR.out c1 rx)
  replace HB := Lib.hid (below_chg HB.out c1 (fun i h => by omega))
  clear hx c1
  (try simp only [] at HX)
  obtain ⟨x0, x1, x2, x3, x4, x5, x6, x7, z0, z1, z2, z3, z4, z5, z6, z7⟩ := at8 HR.out
  go_wp2_with (fail)
  clear x0 x1 x2 x3 x4 x5 x6 x7 z0 z1 z2 z3 z4 z5 z6 z7
  replace HX := Lib.hid (at_set_ne (b' := r) (i := 1) (v := .int .u64 p) HX.out (fun h => rx h.symm))
  replace H4 := Lib.hid (at_set_ne (b' := r) (i := 1) (v := .int .u64 p) H4.out r4)
  replace HR : Hid (At (u1.setCell ⟨r, 1, none⟩ (.int .u64 p)) r #[.string k, .int .u64 p, .int .u32 0, .int .u8 0, .int .u8 0, .int .u32 0, .int .u64 0, .string ⟨#[]⟩] 27) := Lib.hid (at_set' HR.out rfl)
  replace HB := Lib.hid (below_new (b := r) (i := 1) (v := .int .u64 p) HB.out rw')
  generalize u1.setCell ⟨r, 1, none⟩ (.int .u64 p) = v1 at *
  refine (N2.out _ _ HX.out).mono ?_
  rintro e u2 ⟨rfl, hx, c1⟩
  replace HX := Lib.hid hx
  replace H4 := Lib.hid (at_chg H4.out c1 nx)
  replace HR := Lib.hid (at_chg HR.out c1 rx)
  replace HB := Lib.hid (below_chg HB.out c1 (fun i h => by omega))
  clear hx c1
  (try simp only [] at HX)
  obtain ⟨x0, x1, x2, x3, x4, x5, x6, x7, z0, z1, z2, z3, z4, z5, z6, z7⟩ := at8 HR.out
  go_wp2_with (fail)
  clear x0 x1 x2 x3 x4 x5 x6 x7 z0 z1 z2 z3 z4 z5 z6 z7
  replace HX := Lib.hid (at_set_ne (b' := r) (i := 2) (v := .int .u32 l) HX.out (fun h => rx h.symm))
  replace H4 := Lib.hid (at_set_ne (b' := r) (i := 2) (v := .int .u32 l) H4.out r4)
  replace HR : Hid (At (u2.setCell ⟨r, 2, none⟩ (.int .u32 l)) r #[.string k, .int .u64 p, .int .u32 l, .int .u8 0, .int .u8 0, .int .u32 0, .int .u64 0, .string ⟨#[]⟩] 27) := Lib.hid (at_set' HR.out rfl)
  replace HB := Lib.hid (below_new (b := r) (i := 2) (v := .int .u32 l) HB.out rw')
  generalize u2.setCell ⟨r, 2, none⟩ (.int .u32 l) = v2 at *
  refine (N3.out _ _ HX.out).mono ?_
  rintro e u3 ⟨rfl, hx, c1⟩
  replace HX := Lib.hid hx
  replace H4 := Lib.hid (at_chg H4.out c1 nx)
  replace HR := Lib.hid (at_chg HR.out c1 rx)
  replace HB := Lib.hid (below_chg HB.out c1 (fun i h => by omega))
  clear hx c1
  (try simp only [] at HX)
  obtain ⟨x0, x1, x2, x3, x4, x5, x6, x7, z0, z1, z2, z3, z4, z5, z6, z7⟩ := at8 HR.out
  go_wp2_with (fail)
  clear x0 x1 x2 x3 x4 x5 x6 x7 z0 z1 z2 z3 z4 z5 z6 z7
  replace HX := Lib.hid (at_set_ne (b' := r) (i := 3) (v := .int .u8 n) HX.out (fun h => rx h.symm))
  replace H4 := Lib.hid (at_set_ne (b' := r) (i := 3) (v := .int .u8 n) H4.out r4)
  replace HR : Hid (At (u3.setCell ⟨r, 3, none⟩ (.int .u8 n)) r #[.string k, .int .u64 p, .int .u32 l, .int .u8 n, .int .u8 0, .int .u32 0, .int .u64 0, .string ⟨#[]⟩] 27) := Lib.hid (at_set' HR.out rfl)
  replace HB := Lib.hid (below_new (b := r) (i := 3) (v := .int .u8 n) HB.out rw')
  generalize u3.setCell ⟨r, 3, none⟩ (.int .u8 n) = v3 at *
  refine (N4.out _ _ HX.out).mono ?_
  rintro e u4 ⟨rfl, hx, c1⟩
  replace HX := Lib.hid hx
  replace H4 := Lib.hid (at_chg H4.out c1 nx)
  replace HR := Lib.hid (at_chg HR.out c1 rx)
  replace HB := Lib.hid (below_chg HB.out c1 (fun i h => by omega))
  clear hx c1
  (try simp only [] at HX)
  obtain ⟨x0, x1, x2, x3, x4, x5, x6, x7, z0, z1, z2, z3, z4, z5, z6, z7⟩ := at8 HR.out
  obtain ⟨q0, q1, q2, -⟩ := at3 (show At u4 (w.heap.size + 1) #[.string s, .int .i64 a5, .int .i64 e5] 67 from HX.out)
  go_wp2_with (fail)
  clear x0 x1 x2 x3 x4 x5 x6 x7 z0 z1 z2 z3 z4 z5 z6 z7
  replace HX := Lib.hid (at_set_ne (b' := r) (i := 4) (v := .int .u8 d) HX.out (fun h => rx h.symm))
  replace H4 := Lib.hid (at_set_ne (b' := r) (i := 4) (v := .int .u8 d) H4.out r4)
  replace HR : Hid (At (u4.setCell ⟨r, 4, none⟩ (.int .u8 d)) r #[.string k, .int .u64 p, .int .u32 l, .int .u8 n, .int .u8 d, .int .u32 0, .int .u64 0, .string ⟨#[]⟩] 27) := Lib.hid (at_set' HR.out rfl)
  replace HB := Lib.hid (below_new (b := r) (i := 4) (v := .int .u8 d) HB.out rw')
  generalize u4.setCell ⟨r, 4, none⟩ (.int .u8 d) = v4 at *
  clear q0 q1 q2
  obtain ⟨q0, q1, q2, -⟩ := at3 (show At v4 (w.heap.size + 1) #[.string s, .int .i64 a5, .int .i64 e5] 67 from HX.out)
  obtain ⟨y0, y1, y2, y3, y4, y5, y6, y7, w0_, w1_, w2_, w3_, w4_, w5_, w6_, w7_⟩ := at8 H4.out
  go_region
  go_wp2_with (fail)
  clear q0 q1 q2 y0 y1 y2 y3 y4 y5 y6 y7 w0_ w1_ w2_ w3_ w4_ w5_ w6_ w7_
  have HS := Lib.hid (at_drew (at_set8 (v0 := .string ⟨#[]⟩) (v1 := .int .u64 0) (v2 := .int .u32 0) (v3 := .int .u8 0) (v4 := .int .u8 0) (v5 := .int .u32 0) (v6 := .int .u64 0) (v7 := .string ⟨#[]⟩) H4.out))
  have HT := Lib.hid (Below.drew (below_set8 (v0 := .string ⟨#[]⟩) (v1 := .int .u64 0) (v2 := .int .u32 0) (v3 := .int .u8 0) (v4 := .int .u8 0) (v5 := .int .u32 0) (v6 := .int .u64 0) (v7 := .string ⟨#[]⟩) HB.out (Nat.le_refl _)))
  clear HX HR HB H4
  generalize ((((((((v4.setCell ⟨w.heap.size, 0, none⟩ (.string ⟨#[]⟩)).setCell ⟨w.heap.size, 1, none⟩ (.int .u64 0)).setCell ⟨w.heap.size, 2, none⟩ (.int .u32 0)).setCell ⟨w.heap.size, 3, none⟩ (.int .u8 0)).setCell ⟨w.heap.size, 4, none⟩ (.int .u8 0)).setCell ⟨w.heap.size, 5, none⟩ (.int .u32 0)).setCell ⟨w.heap.size, 6, none⟩ (.int .u64 0)).setCell ⟨w.heap.size, 7, none⟩ (.string ⟨#[]⟩)).drew = wz at *
  obtain ⟨zz0, zz1, zz2, zz3, zz4, zz5, zz6, zz7, -⟩ := at8 HS.out
  refine bodyPost_ret (by simp [results, Try.results26, go_sem, zz0, zz1, zz2, zz3, zz4, zz5, zz6, zz7]; try rfl) rfl ?_
  exact ⟨rfl, HT.out⟩
set_option maxRecDepth 100000 in
set_option maxHeartbeats 3200000 in
theorem get_mF (s : ByteArray) (a : Int) (w : World) (hs : s.size ≤ 900000) (k : ByteArray) (p l n d : Int) (a1 e1 a2 e2 a3 e3 a4 e4 a5 e5 : Int) (g0 : rdT s a 0 250 = (k, a1, e1)) (g1 : rdN s a1 e1 18446744073709551615 = (p, a2, e2)) (g2 : rdN s a2 e2 4294967295 = (l, a3, e3)) (g3 : rdN s a3 e3 255 = (n, a4, e4)) (g4 : rdN s a4 e4 255 = (d, a5, e5)) (hd : ¬ d = 3) (he : e5 = 0) (hm : mayR k p n d 0 0 ⟨#[]⟩ = false) :
    Calls Try.prog 26 #[.string s, .int .i64 a] w fun e w' => e = .returned (recV ⟨#[]⟩ 0 0 0 0 0 0 ⟨#[]⟩ 0 3) ∧ Below w.heap.size w w' := by
  have hsm : s.size ≤ maxLen := by unfold maxLen; omega
  have N0 := Lib.hid (fun (b : Nat) (W : World) (h : At W b (rdr s a 0) 67) => text_rd b s a 0 250 W h hsm (by decide))
  have kz := rdT_size s a 0 250
  rw [g0] at N0 kz
  have N1 := Lib.hid (fun (b : Nat) (W : World) (h : At W b (rdr s a1 e1) 67) => number_any b s a1 e1 18446744073709551615 W h hsm)
  have r1 := rdN_range s a1 e1 18446744073709551615 (by decide)
  rw [g1] at N1 r1
  have N2 := Lib.hid (fun (b : Nat) (W : World) (h : At W b (rdr s a2 e2) 67) => number_any b s a2 e2 4294967295 W h hsm)
  have r2 := rdN_range s a2 e2 4294967295 (by decide)
  rw [g2] at N2 r2
  have N3 := Lib.hid (fun (b : Nat) (W : World) (h : At W b (rdr s a3 e3) 67) => number_any b s a3 e3 255 W h hsm)
  have r3 := rdN_range s a3 e3 255 (by decide)
  rw [g3] at N3 r3
  have N4 := Lib.hid (fun (b : Nat) (W : World) (h : At W b (rdr s a4 e4) 67) => number_any b s a4 e4 255 W h hsm)
  have r4 := rdN_range s a4 e4 255 (by decide)
  rw [g4] at N4 r4
  simp only [] at kz r1 r2 r3 r4
  obtain ⟨r10, r11⟩ := r1
  obtain ⟨r20, r21⟩ := r2
  obtain ⟨r30, r31⟩ := r3
  obtain ⟨r40, r41⟩ := r4
  have cd : (d == 3) = false := beq_eq_false_iff_ne.2 hd
  have ce : (e5 != 0) = false := by rw [he]; rfl
  have hy := fun W => may_any k p l n d 0 0 ⟨#[]⟩ W (by omega)
  rw [hm] at hy
  have HY := Lib.hid hy
  clear hy hm
  clear g0 g1 g2 g3 g4 he hd
  go_enter Try.func26, Try.ntmps26
  go_wp2_with (fail)
  have H4 := Lib.hid (at_alloc (o := .cells (rdr s a 0) 67) (at_new w #[.string ⟨#[]⟩, .int .u64 0, .int .u32 0, .int .u8 0, .int .u8 0, .int .u32 0, .int .u64 0, .string ⟨#[]⟩] 27))
  have HX := Lib.hid (at_new (w.alloc (.cells #[.string ⟨#[]⟩, .int .u64 0, .int .u32 0, .int .u8 0, .int .u8 0, .int .u32 0, .int .u64 0, .string ⟨#[]⟩] 27)) (rdr s a 0) 67)
  have HB := Lib.hid (below_al (o := .cells (rdr s a 0) 67) (below_al (o := .cells #[.string ⟨#[]⟩, .int .u64 0, .int .u32 0, .int .u8 0, .int .u8 0, .int .u32 0, .int .u64 0, .string ⟨#[]⟩] 27) (Below.refl w.heap.size w)))
  rw [World.size_alloc] at HX
  have nx : w.heap.size ≠ w.heap.size + 1 := by omega
  refine (N0.out _ _ HX.out).mono ?_
  rintro e w1 ⟨rfl, hx, c1⟩
  have HX1 := Lib.hid hx
  replace H4 := Lib.hid (at_chg H4.out c1 nx)
  replace HB := Lib.hid (below_chg HB.out c1 (fun i h => by omega))
  have lx : w.heap.size + 1 < w1.heap.size := At.lt hx
  clear hx c1 HX
  have HX := HX1
  clear HX1
  (try simp only [] at HX)
  go_wp2_with (fail)
  have HR := Lib.hid (at_new w1 #[.string k, .int .u64 0, .int .u32 0, .int .u8 0, .int .u8 0, .int .u32 0, .int .u64 0, .string ⟨#[]⟩] 27)
  replace H4 := Lib.hid (at_alloc (o := .cells #[.string k, .int .u64 0, .int .u32 0, .int .u8 0, .int .u8 0, .int .u32 0, .int .u64 0, .string ⟨#[]⟩] 27) H4.out)
  replace HX := Lib.hid (at_alloc (o := .cells #[.string k, .int .u64 0, .int .u32 0, .int .u8 0, .int .u8 0, .int .u32 0, .int .u64 0, .string ⟨#[]⟩] 27) HX.out)
  replace HB := Lib.hid (below_al (o := .cells #[.string k, .int .u64 0, .int .u32 0, .int .u8 0, .int .u8 0, .int .u32 0, .int .u64 0, .string ⟨#[]⟩] 27) HB.out)
  generalize w1.alloc (.cells #[.string k, .int .u64 0, .int .u32 0, .int .u8 0, .int .u8 0, .int .u32 0, .int .u64 0, .string ⟨#[]⟩] 27) = v0 at *
  generalize w1.heap.size = r at *
  have rx : r ≠ w.heap.size + 1 := by omega
  have r4 : w.heap.size ≠ r := by omega
  have rw' : w.heap.size ≤ r := by omega
  refine (N1.out _ _ HX.out).mono ?_
  rintro e u1 ⟨rfl, hx, c1⟩
  replace HX := Lib.hid hx
  replace H4 := Lib.hid (at_chg H4.out c1 nx)
  replace HR := Lib.hid (at_chg HR.out c1 rx)
  replace HB := Lib.hid (below_chg HB.out c1 (fun i h => by omega))
  clear hx c1
  (try simp only [] at HX)
  obtain ⟨x0, x1, x2, x3, x4, x5, x6, x7, z0, z1, z2, z3, z4, z5, z6, z7⟩ := at8 HR.out
  go_wp2_with (fail)
  clear x0 x1 x2 x3 x4 x5 x6 x7 z0 z1 z2 z3 z4 z5 z6 z7
  replace HX := Lib.hid (at_set_ne (b' := r) (i := 1) (v := .int .u64 p) HX.out (fun h => rx h.symm))
  replace H4 := Lib.hid (at_set_ne (b' := r) (i := 1) (v := .int .u64 p) H4.out r4)
  replace HR : Hid (At (u1.setCell ⟨r, 1, none⟩ (.int .u64 p)) r #[.string k, .int .u64 p, .int .u32 0, .int .u8 0, .int .u8 0, .int .u32 0, .int .u64 0, .string ⟨#[]⟩] 27) := Lib.hid (at_set' HR.out rfl)
  replace HB := Lib.hid (below_new (b := r) (i := 1) (v := .int .u64 p) HB.out rw')
  generalize u1.setCell ⟨r, 1, none⟩ (.int .u64 p) = v1 at *
  refine (N2.out _ _ HX.out).mono ?_
  rintro e u2 ⟨rfl, hx, c1⟩
  replace HX := Lib.hid hx
  replace H4 := Lib.hid (at_chg H4.out c1 nx)
  replace HR := Lib.hid (at_chg HR.out c1 rx)
  replace HB := Lib.hid (below_chg HB.out c1 (fun i h => by omega))
  clear hx c1
  (try simp only [] at HX)
  obtain ⟨x0, x1, x2, x3, x4, x5, x6, x7, z0, z1, z2, z3, z4, z5, z6, z7⟩ := at8 HR.out
  go_wp2_with (fail)
  clear x0 x1 x2 x3 x4 x5 x6 x7 z0 z1 z2 z3 z4 z5 z6 z7
  replace HX := Lib.hid (at_set_ne (b' := r) (i := 2) (v := .int .u32 l) HX.out (fun h => rx h.symm))
  replace H4 := Lib.hid (at_set_ne (b' := r) (i := 2) (v := .int .u32 l) H4.out r4)
  replace HR : Hid (At (u2.setCell ⟨r, 2, none⟩ (.int .u32 l)) r #[.string k, .int .u64 p, .int .u32 l, .int .u8 0, .int .u8 0, .int .u32 0, .int .u64 0, .string ⟨#[]⟩] 27) := Lib.hid (at_set' HR.out rfl)
  replace HB := Lib.hid (below_new (b := r) (i := 2) (v := .int .u32 l) HB.out rw')
  generalize u2.setCell ⟨r, 2, none⟩ (.int .u32 l) = v2 at *
  refine (N3.out _ _ HX.out).mono ?_
  rintro e u3 ⟨rfl, hx, c1⟩
  replace HX := Lib.hid hx
  replace H4 := Lib.hid (at_chg H4.out c1 nx)
  replace HR := Lib.hid (at_chg HR.out c1 rx)
  replace HB := Lib.hid (below_chg HB.out c1 (fun i h => by omega))
  clear hx c1
  (try simp only [] at HX)
  obtain ⟨x0, x1, x2, x3, x4, x5, x6, x7, z0, z1, z2, z3, z4, z5, z6, z7⟩ := at8 HR.out
  go_wp2_with (fail)
  clear x0 x1 x2 x3 x4 x5 x6 x7 z0 z1 z2 z3 z4 z5 z6 z7
  replace HX := Lib.hid (at_set_ne (b' := r) (i := 3) (v := .int .u8 n) HX.out (fun h => rx h.symm))
  replace H4 := Lib.hid (at_set_ne (b' := r) (i := 3) (v := .int .u8 n) H4.out r4)
  replace HR : Hid (At (u3.setCell ⟨r, 3, none⟩ (.int .u8 n)) r #[.string k, .int .u64 p, .int .u32 l, .int .u8 n, .int .u8 0, .int .u32 0, .int .u64 0, .string ⟨#[]⟩] 27) := Lib.hid (at_set' HR.out rfl)
  replace HB := Lib.hid (below_new (b := r) (i := 3) (v := .int .u8 n) HB.out rw')
  generalize u3.setCell ⟨r, 3, none⟩ (.int .u8 n) = v3 at *
  refine (N4.out _ _ HX.out).mono ?_
  rintro e u4 ⟨rfl, hx, c1⟩
  replace HX := Lib.hid hx
  replace H4 := Lib.hid (at_chg H4.out c1 nx)
  replace HR := Lib.hid (at_chg HR.out c1 rx)
  replace HB := Lib.hid (below_chg HB.out c1 (fun i h => by omega))
  clear hx c1
  (try simp only [] at HX)
  obtain ⟨x0, x1, x2, x3, x4, x5, x6, x7, z0, z1, z2, z3, z4, z5, z6, z7⟩ := at8 HR.out
  obtain ⟨q0, q1, q2, -⟩ := at3 (show At u4 (w.heap.size + 1) #[.string s, .int .i64 a5, .int .i64 e5] 67 from HX.out)
  go_wp2_with (fail)
  clear x0 x1 x2 x3 x4 x5 x6 x7 z0 z1 z2 z3 z4 z5 z6 z7
  replace HX := Lib.hid (at_set_ne (b' := r) (i := 4) (v := .int .u8 d) HX.out (fun h => rx h.symm))
  replace H4 := Lib.hid (at_set_ne (b' := r) (i := 4) (v := .int .u8 d) H4.out r4)
  replace HR : Hid (At (u4.setCell ⟨r, 4, none⟩ (.int .u8 d)) r #[.string k, .int .u64 p, .int .u32 l, .int .u8 n, .int .u8 d, .int .u32 0, .int .u64 0, .string ⟨#[]⟩] 27) := Lib.hid (at_set' HR.out rfl)
  replace HB := Lib.hid (below_new (b := r) (i := 4) (v := .int .u8 d) HB.out rw')
  generalize u4.setCell ⟨r, 4, none⟩ (.int .u8 d) = v4 at *
  clear q0 q1 q2
  refine (HY.out _).mono ?_
  rintro e w9 ⟨rfl, b9⟩
  replace HX := Lib.hid (at_below HX.out b9)
  replace H4 := Lib.hid (at_below H4.out b9)
  replace HR := Lib.hid (at_below HR.out b9)
  replace HB := Lib.hid (below_on HB.out b9)
  clear b9
  obtain ⟨q0, q1, q2, -⟩ := at3 (show At w9 (w.heap.size + 1) #[.string s, .int .i64 a5, .int .i64 e5] 67 from HX.out)
  obtain ⟨y0, y1, y2, y3, y4, y5, y6, y7, w0_, w1_, w2_, w3_, w4_, w5_, w6_, w7_⟩ := at8 H4.out
  obtain ⟨x0, x1, x2, x3, x4, x5, x6, x7, z0, z1, z2, z3, z4, z5, z6, z7⟩ := at8 HR.out
  go_wp2_with (fail)
  clear x0 x1 x2 x3 x4 x5 x6 x7 z0 z1 z2 z3 z4 z5 z6 z7
  clear q0 q1 q2 y0 y1 y2 y3 y4 y5 y6 y7 w0_ w1_ w2_ w3_ w4_ w5_ w6_ w7_
  have HS := Lib.hid ((at_set8 (v0 := .string ⟨#[]⟩) (v1 := .int .u64 0) (v2 := .int .u32 0) (v3 := .int .u8 0) (v4 := .int .u8 0) (v5 := .int .u32 0) (v6 := .int .u64 0) (v7 := .string ⟨#[]⟩) H4.out))
  have HT := Lib.hid ((below_set8 (v0 := .string ⟨#[]⟩) (v1 := .int .u64 0) (v2 := .int .u32 0) (v3 := .int .u8 0) (v4 := .int .u8 0) (v5 := .int .u32 0) (v6 := .int .u64 0) (v7 := .string ⟨#[]⟩) HB.out (Nat.le_refl _)))
  clear HX HR HB H4
  generalize ((((((((w9.setCell ⟨w.heap.size, 0, none⟩ (.string ⟨#[]⟩)).setCell ⟨w.heap.size, 1, none⟩ (.int .u64 0)).setCell ⟨w.heap.size, 2, none⟩ (.int .u32 0)).setCell ⟨w.heap.size, 3, none⟩ (.int .u8 0)).setCell ⟨w.heap.size, 4, none⟩ (.int .u8 0)).setCell ⟨w.heap.size, 5, none⟩ (.int .u32 0)).setCell ⟨w.heap.size, 6, none⟩ (.int .u64 0)).setCell ⟨w.heap.size, 7, none⟩ (.string ⟨#[]⟩)) = wz at *
  obtain ⟨zz0, zz1, zz2, zz3, zz4, zz5, zz6, zz7, -⟩ := at8 HS.out
  refine bodyPost_ret (by simp [results, Try.results26, go_sem, zz0, zz1, zz2, zz3, zz4, zz5, zz6, zz7]; try rfl) rfl ?_
  exact ⟨rfl, HT.out⟩
set_option maxRecDepth 100000 in
set_option maxHeartbeats 3200000 in
theorem get_mO (s : ByteArray) (a : Int) (w : World) (hs : s.size ≤ 900000) (k : ByteArray) (p l n d : Int) (a1 e1 a2 e2 a3 e3 a4 e4 a5 e5 : Int) (g0 : rdT s a 0 250 = (k, a1, e1)) (g1 : rdN s a1 e1 18446744073709551615 = (p, a2, e2)) (g2 : rdN s a2 e2 4294967295 = (l, a3, e3)) (g3 : rdN s a3 e3 255 = (n, a4, e4)) (g4 : rdN s a4 e4 255 = (d, a5, e5)) (hd : ¬ d = 3) (he : e5 = 0) (hm : mayR k p n d 0 0 ⟨#[]⟩ = true) :
    Calls Try.prog 26 #[.string s, .int .i64 a] w fun e w' => e = .returned (recV k p l n d 0 0 ⟨#[]⟩ a5 0) ∧ Below w.heap.size w w' := by
  have hsm : s.size ≤ maxLen := by unfold maxLen; omega
  have N0 := Lib.hid (fun (b : Nat) (W : World) (h : At W b (rdr s a 0) 67) => text_rd b s a 0 250 W h hsm (by decide))
  have kz := rdT_size s a 0 250
  rw [g0] at N0 kz
  have N1 := Lib.hid (fun (b : Nat) (W : World) (h : At W b (rdr s a1 e1) 67) => number_any b s a1 e1 18446744073709551615 W h hsm)
  have r1 := rdN_range s a1 e1 18446744073709551615 (by decide)
  rw [g1] at N1 r1
  have N2 := Lib.hid (fun (b : Nat) (W : World) (h : At W b (rdr s a2 e2) 67) => number_any b s a2 e2 4294967295 W h hsm)
  have r2 := rdN_range s a2 e2 4294967295 (by decide)
  rw [g2] at N2 r2
  have N3 := Lib.hid (fun (b : Nat) (W : World) (h : At W b (rdr s a3 e3) 67) => number_any b s a3 e3 255 W h hsm)
  have r3 := rdN_range s a3 e3 255 (by decide)
  rw [g3] at N3 r3
  have N4 := Lib.hid (fun (b : Nat) (W : World) (h : At W b (rdr s a4 e4) 67) => number_any b s a4 e4 255 W h hsm)
  have r4 := rdN_range s a4 e4 255 (by decide)
  rw [g4] at N4 r4
  simp only [] at kz r1 r2 r3 r4
  obtain ⟨r10, r11⟩ := r1
  obtain ⟨r20, r21⟩ := r2
  obtain ⟨r30, r31⟩ := r3
  obtain ⟨r40, r41⟩ := r4
  have cd : (d == 3) = false := beq_eq_false_iff_ne.2 hd
  have ce : (e5 != 0) = false := by rw [he]; rfl
  have hy := fun W => may_any k p l n d 0 0 ⟨#[]⟩ W (by omega)
  rw [hm] at hy
  have HY := Lib.hid hy
  clear hy hm
  clear g0 g1 g2 g3 g4 he hd
  go_enter Try.func26, Try.ntmps26
  go_wp2_with (fail)
  have H4 := Lib.hid (at_alloc (o := .cells (rdr s a 0) 67) (at_new w #[.string ⟨#[]⟩, .int .u64 0, .int .u32 0, .int .u8 0, .int .u8 0, .int .u32 0, .int .u64 0, .string ⟨#[]⟩] 27))
  have HX := Lib.hid (at_new (w.alloc (.cells #[.string ⟨#[]⟩, .int .u64 0, .int .u32 0, .int .u8 0, .int .u8 0, .int .u32 0, .int .u64 0, .string ⟨#[]⟩] 27)) (rdr s a 0) 67)
  have HB := Lib.hid (below_al (o := .cells (rdr s a 0) 67) (below_al (o := .cells #[.string ⟨#[]⟩, .int .u64 0, .int .u32 0, .int .u8 0, .int .u8 0, .int .u32 0, .int .u64 0, .string ⟨#[]⟩] 27) (Below.refl w.heap.size w)))
  rw [World.size_alloc] at HX
  have nx : w.heap.size ≠ w.heap.size + 1 := by omega
  refine (N0.out _ _ HX.out).mono ?_
  rintro e w1 ⟨rfl, hx, c1⟩
  have HX1 := Lib.hid hx
  replace H4 := Lib.hid (at_chg H4.out c1 nx)
  replace HB := Lib.hid (below_chg HB.out c1 (fun i h => by omega))
  have lx : w.heap.size + 1 < w1.heap.size := At.lt hx
  clear hx c1 HX
  have HX := HX1
  clear HX1
  (try simp only [] at HX)
  go_wp2_with (fail)
  have HR := Lib.hid (at_new w1 #[.string k, .int .u64 0, .int .u32 0, .int .u8 0, .int .u8 0, .int .u32 0, .int .u64 0, .string ⟨#[]⟩] 27)
  replace H4 := Lib.hid (at_alloc (o := .cells #[.string k, .int .u64 0, .int .u32 0, .int .u8 0, .int .u8 0, .int .u32 0, .int .u64 0, .string ⟨#[]⟩] 27) H4.out)
  replace HX := Lib.hid (at_alloc (o := .cells #[.string k, .int .u64 0, .int .u32 0, .int .u8 0, .int .u8 0, .int .u32 0, .int .u64 0, .string ⟨#[]⟩] 27) HX.out)
  replace HB := Lib.hid (below_al (o := .cells #[.string k, .int .u64 0, .int .u32 0, .int .u8 0, .int .u8 0, .int .u32 0, .int .u64 0, .string ⟨#[]⟩] 27) HB.out)
  generalize w1.alloc (.cells #[.string k, .int .u64 0, .int .u32 0, .int .u8 0, .int .u8 0, .int .u32 0, .int .u64 0, .string ⟨#[]⟩] 27) = v0 at *
  generalize w1.heap.size = r at *
  have rx : r ≠ w.heap.size + 1 := by omega
  have r4 : w.heap.size ≠ r := by omega
  have rw' : w.heap.size ≤ r := by omega
  refine (N1.out _ _ HX.out).mono ?_
  rintro e u1 ⟨rfl, hx, c1⟩
  replace HX := Lib.hid hx
  replace H4 := Lib.hid (at_chg H4.out c1 nx)
  replace HR := Lib.hid (at_chg HR.out c1 rx)
  replace HB := Lib.hid (below_chg HB.out c1 (fun i h => by omega))
  clear hx c1
  (try simp only [] at HX)
  obtain ⟨x0, x1, x2, x3, x4, x5, x6, x7, z0, z1, z2, z3, z4, z5, z6, z7⟩ := at8 HR.out
  go_wp2_with (fail)
  clear x0 x1 x2 x3 x4 x5 x6 x7 z0 z1 z2 z3 z4 z5 z6 z7
  replace HX := Lib.hid (at_set_ne (b' := r) (i := 1) (v := .int .u64 p) HX.out (fun h => rx h.symm))
  replace H4 := Lib.hid (at_set_ne (b' := r) (i := 1) (v := .int .u64 p) H4.out r4)
  replace HR : Hid (At (u1.setCell ⟨r, 1, none⟩ (.int .u64 p)) r #[.string k, .int .u64 p, .int .u32 0, .int .u8 0, .int .u8 0, .int .u32 0, .int .u64 0, .string ⟨#[]⟩] 27) := Lib.hid (at_set' HR.out rfl)
  replace HB := Lib.hid (below_new (b := r) (i := 1) (v := .int .u64 p) HB.out rw')
  generalize u1.setCell ⟨r, 1, none⟩ (.int .u64 p) = v1 at *
  refine (N2.out _ _ HX.out).mono ?_
  rintro e u2 ⟨rfl, hx, c1⟩
  replace HX := Lib.hid hx
  replace H4 := Lib.hid (at_chg H4.out c1 nx)
  replace HR := Lib.hid (at_chg HR.out c1 rx)
  replace HB := Lib.hid (below_chg HB.out c1 (fun i h => by omega))
  clear hx c1
  (try simp only [] at HX)
  obtain ⟨x0, x1, x2, x3, x4, x5, x6, x7, z0, z1, z2, z3, z4, z5, z6, z7⟩ := at8 HR.out
  go_wp2_with (fail)
  clear x0 x1 x2 x3 x4 x5 x6 x7 z0 z1 z2 z3 z4 z5 z6 z7
  replace HX := Lib.hid (at_set_ne (b' := r) (i := 2) (v := .int .u32 l) HX.out (fun h => rx h.symm))
  replace H4 := Lib.hid (at_set_ne (b' := r) (i := 2) (v := .int .u32 l) H4.out r4)
  replace HR : Hid (At (u2.setCell ⟨r, 2, none⟩ (.int .u32 l)) r #[.string k, .int .u64 p, .int .u32 l, .int .u8 0, .int .u8 0, .int .u32 0, .int .u64 0, .string ⟨#[]⟩] 27) := Lib.hid (at_set' HR.out rfl)
  replace HB := Lib.hid (below_new (b := r) (i := 2) (v := .int .u32 l) HB.out rw')
  generalize u2.setCell ⟨r, 2, none⟩ (.int .u32 l) = v2 at *
  refine (N3.out _ _ HX.out).mono ?_
  rintro e u3 ⟨rfl, hx, c1⟩
  replace HX := Lib.hid hx
  replace H4 := Lib.hid (at_chg H4.out c1 nx)
  replace HR := Lib.hid (at_chg HR.out c1 rx)
  replace HB := Lib.hid (below_chg HB.out c1 (fun i h => by omega))
  clear hx c1
  (try simp only [] at HX)
  obtain ⟨x0, x1, x2, x3, x4, x5, x6, x7, z0, z1, z2, z3, z4, z5, z6, z7⟩ := at8 HR.out
  go_wp2_with (fail)
  clear x0 x1 x2 x3 x4 x5 x6 x7 z0 z1 z2 z3 z4 z5 z6 z7
  replace HX := Lib.hid (at_set_ne (b' := r) (i := 3) (v := .int .u8 n) HX.out (fun h => rx h.symm))
  replace H4 := Lib.hid (at_set_ne (b' := r) (i := 3) (v := .int .u8 n) H4.out r4)
  replace HR : Hid (At (u3.setCell ⟨r, 3, none⟩ (.int .u8 n)) r #[.string k, .int .u64 p, .int .u32 l, .int .u8 n, .int .u8 0, .int .u32 0, .int .u64 0, .string ⟨#[]⟩] 27) := Lib.hid (at_set' HR.out rfl)
  replace HB := Lib.hid (below_new (b := r) (i := 3) (v := .int .u8 n) HB.out rw')
  generalize u3.setCell ⟨r, 3, none⟩ (.int .u8 n) = v3 at *
  refine (N4.out _ _ HX.out).mono ?_
  rintro e u4 ⟨rfl, hx, c1⟩
  replace HX := Lib.hid hx
  replace H4 := Lib.hid (at_chg H4.out c1 nx)
  replace HR := Lib.hid (at_chg HR.out c1 rx)
  replace HB := Lib.hid (below_chg HB.out c1 (fun i h => by omega))
  clear hx c1
  (try simp only [] at HX)
  obtain ⟨x0, x1, x2, x3, x4, x5, x6, x7, z0, z1, z2, z3, z4, z5, z6, z7⟩ := at8 HR.out
  obtain ⟨q0, q1, q2, -⟩ := at3 (show At u4 (w.heap.size + 1) #[.string s, .int .i64 a5, .int .i64 e5] 67 from HX.out)
  go_wp2_with (fail)
  clear x0 x1 x2 x3 x4 x5 x6 x7 z0 z1 z2 z3 z4 z5 z6 z7
  replace HX := Lib.hid (at_set_ne (b' := r) (i := 4) (v := .int .u8 d) HX.out (fun h => rx h.symm))
  replace H4 := Lib.hid (at_set_ne (b' := r) (i := 4) (v := .int .u8 d) H4.out r4)
  replace HR : Hid (At (u4.setCell ⟨r, 4, none⟩ (.int .u8 d)) r #[.string k, .int .u64 p, .int .u32 l, .int .u8 n, .int .u8 d, .int .u32 0, .int .u64 0, .string ⟨#[]⟩] 27) := Lib.hid (at_set' HR.out rfl)
  replace HB := Lib.hid (below_new (b := r) (i := 4) (v := .int .u8 d) HB.out rw')
  generalize u4.setCell ⟨r, 4, none⟩ (.int .u8 d) = v4 at *
  clear q0 q1 q2
  refine (HY.out _).mono ?_
  rintro e w9 ⟨rfl, b9⟩
  replace HX := Lib.hid (at_below HX.out b9)
  replace H4 := Lib.hid (at_below H4.out b9)
  replace HR := Lib.hid (at_below HR.out b9)
  replace HB := Lib.hid (below_on HB.out b9)
  clear b9
  obtain ⟨q0, q1, q2, -⟩ := at3 (show At w9 (w.heap.size + 1) #[.string s, .int .i64 a5, .int .i64 e5] 67 from HX.out)
  obtain ⟨y0, y1, y2, y3, y4, y5, y6, y7, w0_, w1_, w2_, w3_, w4_, w5_, w6_, w7_⟩ := at8 H4.out
  obtain ⟨x0, x1, x2, x3, x4, x5, x6, x7, z0, z1, z2, z3, z4, z5, z6, z7⟩ := at8 HR.out
  go_wp2_with (fail)
  go_region
  go_wp2_with (fail)
  clear x0 x1 x2 x3 x4 x5 x6 x7 z0 z1 z2 z3 z4 z5 z6 z7
  clear q0 q1 q2 y0 y1 y2 y3 y4 y5 y6 y7 w0_ w1_ w2_ w3_ w4_ w5_ w6_ w7_
  have HS := Lib.hid (at_drew (at_set8 (v0 := .string k) (v1 := .int .u64 p) (v2 := .int .u32 l) (v3 := .int .u8 n) (v4 := .int .u8 d) (v5 := .int .u32 0) (v6 := .int .u64 0) (v7 := .string ⟨#[]⟩) H4.out))
  have HT := Lib.hid (Below.drew (below_set8 (v0 := .string k) (v1 := .int .u64 p) (v2 := .int .u32 l) (v3 := .int .u8 n) (v4 := .int .u8 d) (v5 := .int .u32 0) (v6 := .int .u64 0) (v7 := .string ⟨#[]⟩) HB.out (Nat.le_refl _)))
  clear HX HR HB H4
  generalize ((((((((w9.setCell ⟨w.heap.size, 0, none⟩ (.string k)).setCell ⟨w.heap.size, 1, none⟩ (.int .u64 p)).setCell ⟨w.heap.size, 2, none⟩ (.int .u32 l)).setCell ⟨w.heap.size, 3, none⟩ (.int .u8 n)).setCell ⟨w.heap.size, 4, none⟩ (.int .u8 d)).setCell ⟨w.heap.size, 5, none⟩ (.int .u32 0)).setCell ⟨w.heap.size, 6, none⟩ (.int .u64 0)).setCell ⟨w.heap.size, 7, none⟩ (.string ⟨#[]⟩)).drew = wz at *
  obtain ⟨zz0, zz1, zz2, zz3, zz4, zz5, zz6, zz7, -⟩ := at8 HS.out
  refine bodyPost_ret (by simp [results, Try.results26, go_sem, zz0, zz1, zz2, zz3, zz4, zz5, zz6, zz7]; try rfl) rfl ?_
  exact ⟨rfl, HT.out⟩
set_option maxRecDepth 100000 in
set_option maxHeartbeats 3200000 in
theorem get_vE (s : ByteArray) (a : Int) (w : World) (hs : s.size ≤ 900000) (k : ByteArray) (p l n d f x : Int) (b : ByteArray) (a1 e1 a2 e2 a3 e3 a4 e4 a5 e5 a6 e6 a7 e7 a8 e8 : Int) (g0 : rdT s a 0 250 = (k, a1, e1)) (g1 : rdN s a1 e1 18446744073709551615 = (p, a2, e2)) (g2 : rdN s a2 e2 4294967295 = (l, a3, e3)) (g3 : rdN s a3 e3 255 = (n, a4, e4)) (g4 : rdN s a4 e4 255 = (d, a5, e5)) (g5 : rdN s a5 e5 4294967295 = (f, a6, e6)) (g6 : rdN s a6 e6 18446744073709551615 = (x, a7, e7)) (g7 : rdT s a7 e7 1024 = (b, a8, e8)) (hd : d = 3) (he : ¬ e8 = 0) :
    Calls Try.prog 26 #[.string s, .int .i64 a] w fun e w' => e = .returned (recV ⟨#[]⟩ 0 0 0 0 0 0 ⟨#[]⟩ 0 e8) ∧ Below w.heap.size w w' := by
  have hsm : s.size ≤ maxLen := by unfold maxLen; omega
  have N0 := Lib.hid (fun (b : Nat) (W : World) (h : At W b (rdr s a 0) 67) => text_rd b s a 0 250 W h hsm (by decide))
  have kz := rdT_size s a 0 250
  rw [g0] at N0 kz
  have N1 := Lib.hid (fun (b : Nat) (W : World) (h : At W b (rdr s a1 e1) 67) => number_any b s a1 e1 18446744073709551615 W h hsm)
  have r1 := rdN_range s a1 e1 18446744073709551615 (by decide)
  rw [g1] at N1 r1
  have N2 := Lib.hid (fun (b : Nat) (W : World) (h : At W b (rdr s a2 e2) 67) => number_any b s a2 e2 4294967295 W h hsm)
  have r2 := rdN_range s a2 e2 4294967295 (by decide)
  rw [g2] at N2 r2
  have N3 := Lib.hid (fun (b : Nat) (W : World) (h : At W b (rdr s a3 e3) 67) => number_any b s a3 e3 255 W h hsm)
  have r3 := rdN_range s a3 e3 255 (by decide)
  rw [g3] at N3 r3
  have N4 := Lib.hid (fun (b : Nat) (W : World) (h : At W b (rdr s a4 e4) 67) => number_any b s a4 e4 255 W h hsm)
  have r4 := rdN_range s a4 e4 255 (by decide)
  rw [g4] at N4 r4
  have N5 := Lib.hid (fun (b : Nat) (W : World) (h : At W b (rdr s a5 e5) 67) => number_any b s a5 e5 4294967295 W h hsm)
  have r5 := rdN_range s a5 e5 4294967295 (by decide)
  rw [g5] at N5 r5
  have N6 := Lib.hid (fun (b : Nat) (W : World) (h : At W b (rdr s a6 e6) 67) => number_any b s a6 e6 18446744073709551615 W h hsm)
  have r6 := rdN_range s a6 e6 18446744073709551615 (by decide)
  rw [g6] at N6 r6
  have N7 := Lib.hid (fun (b : Nat) (W : World) (h : At W b (rdr s a7 e7) 67) => text_rd b s a7 e7 1024 W h hsm (by decide))
  rw [g7] at N7
  simp only [] at kz r1 r2 r3 r4 r5 r6
  obtain ⟨r10, r11⟩ := r1
  obtain ⟨r20, r21⟩ := r2
  obtain ⟨r30, r31⟩ := r3
  obtain ⟨r40, r41⟩ := r4
  obtain ⟨r50, r51⟩ := r5
  obtain ⟨r60, r61⟩ := r6
  have cd : (d == 3) = true := beq_iff_eq.2 hd
  have ce : (e8 != 0) = true := bne_iff_ne.2 he
  clear g0 g1 g2 g3 g4 g5 g6 g7 he hd
  go_enter Try.func26, Try.ntmps26
  go_wp2_with (fail)
  have H4 := Lib.hid (at_alloc (o := .cells (rdr s a 0) 67) (at_new w #[.string ⟨#[]⟩, .int .u64 0, .int .u32 0, .int .u8 0, .int .u8 0, .int .u32 0, .int .u64 0, .string ⟨#[]⟩] 27))
  have HX := Lib.hid (at_new (w.alloc (.cells #[.string ⟨#[]⟩, .int .u64 0, .int .u32 0, .int .u8 0, .int .u8 0, .int .u32 0, .int .u64 0, .string ⟨#[]⟩] 27)) (rdr s a 0) 67)
  have HB := Lib.hid (below_al (o := .cells (rdr s a 0) 67) (below_al (o := .cells #[.string ⟨#[]⟩, .int .u64 0, .int .u32 0, .int .u8 0, .int .u8 0, .int .u32 0, .int .u64 0, .string ⟨#[]⟩] 27) (Below.refl w.heap.size w)))
  rw [World.size_alloc] at HX
  have nx : w.heap.size ≠ w.heap.size + 1 := by omega
  refine (N0.out _ _ HX.out).mono ?_
  rintro e w1 ⟨rfl, hx, c1⟩
  have HX1 := Lib.hid hx
  replace H4 := Lib.hid (at_chg H4.out c1 nx)
  replace HB := Lib.hid (below_chg HB.out c1 (fun i h => by omega))
  have lx : w.heap.size + 1 < w1.heap.size := At.lt hx
  clear hx c1 HX
  have HX := HX1
  clear HX1
  (try simp only [] at HX)
  go_wp2_with (fail)
  have HR := Lib.hid (at_new w1 #[.string k, .int .u64 0, .int .u32 0, .int .u8 0, .int .u8 0, .int .u32 0, .int .u64 0, .string ⟨#[]⟩] 27)
  replace H4 := Lib.hid (at_alloc (o := .cells #[.string k, .int .u64 0, .int .u32 0, .int .u8 0, .int .u8 0, .int .u32 0, .int .u64 0, .string ⟨#[]⟩] 27) H4.out)
  replace HX := Lib.hid (at_alloc (o := .cells #[.string k, .int .u64 0, .int .u32 0, .int .u8 0, .int .u8 0, .int .u32 0, .int .u64 0, .string ⟨#[]⟩] 27) HX.out)
  replace HB := Lib.hid (below_al (o := .cells #[.string k, .int .u64 0, .int .u32 0, .int .u8 0, .int .u8 0, .int .u32 0, .int .u64 0, .string ⟨#[]⟩] 27) HB.out)
  generalize w1.alloc (.cells #[.string k, .int .u64 0, .int .u32 0, .int .u8 0, .int .u8 0, .int .u32 0, .int .u64 0, .string ⟨#[]⟩] 27) = v0 at *
  generalize w1.heap.size = r at *
  have rx : r ≠ w.heap.size + 1 := by omega
  have r4 : w.heap.size ≠ r := by omega
  have rw' : w.heap.size ≤ r := by omega
  refine (N1.out _ _ HX.out).mono ?_
  rintro e u1 ⟨rfl, hx, c1⟩
  replace HX := Lib.hid hx
  replace H4 := Lib.hid (at_chg H4.out c1 nx)
  replace HR := Lib.hid (at_chg HR.out c1 rx)
  replace HB := Lib.hid (below_chg HB.out c1 (fun i h => by omega))
  clear hx c1
  (try simp only [] at HX)
  obtain ⟨x0, x1, x2, x3, x4, x5, x6, x7, z0, z1, z2, z3, z4, z5, z6, z7⟩ := at8 HR.out
  go_wp2_with (fail)
  clear x0 x1 x2 x3 x4 x5 x6 x7 z0 z1 z2 z3 z4 z5 z6 z7
  replace HX := Lib.hid (at_set_ne (b' := r) (i := 1) (v := .int .u64 p) HX.out (fun h => rx h.symm))
  replace H4 := Lib.hid (at_set_ne (b' := r) (i := 1) (v := .int .u64 p) H4.out r4)
  replace HR : Hid (At (u1.setCell ⟨r, 1, none⟩ (.int .u64 p)) r #[.string k, .int .u64 p, .int .u32 0, .int .u8 0, .int .u8 0, .int .u32 0, .int .u64 0, .string ⟨#[]⟩] 27) := Lib.hid (at_set' HR.out rfl)
  replace HB := Lib.hid (below_new (b := r) (i := 1) (v := .int .u64 p) HB.out rw')
  generalize u1.setCell ⟨r, 1, none⟩ (.int .u64 p) = v1 at *
  refine (N2.out _ _ HX.out).mono ?_
  rintro e u2 ⟨rfl, hx, c1⟩
  replace HX := Lib.hid hx
  replace H4 := Lib.hid (at_chg H4.out c1 nx)
  replace HR := Lib.hid (at_chg HR.out c1 rx)
  replace HB := Lib.hid (below_chg HB.out c1 (fun i h => by omega))
  clear hx c1
  (try simp only [] at HX)
  obtain ⟨x0, x1, x2, x3, x4, x5, x6, x7, z0, z1, z2, z3, z4, z5, z6, z7⟩ := at8 HR.out
  go_wp2_with (fail)
  clear x0 x1 x2 x3 x4 x5 x6 x7 z0 z1 z2 z3 z4 z5 z6 z7
  replace HX := Lib.hid (at_set_ne (b' := r) (i := 2) (v := .int .u32 l) HX.out (fun h => rx h.symm))
  replace H4 := Lib.hid (at_set_ne (b' := r) (i := 2) (v := .int .u32 l) H4.out r4)
  replace HR : Hid (At (u2.setCell ⟨r, 2, none⟩ (.int .u32 l)) r #[.string k, .int .u64 p, .int .u32 l, .int .u8 0, .int .u8 0, .int .u32 0, .int .u64 0, .string ⟨#[]⟩] 27) := Lib.hid (at_set' HR.out rfl)
  replace HB := Lib.hid (below_new (b := r) (i := 2) (v := .int .u32 l) HB.out rw')
  generalize u2.setCell ⟨r, 2, none⟩ (.int .u32 l) = v2 at *
  refine (N3.out _ _ HX.out).mono ?_
  rintro e u3 ⟨rfl, hx, c1⟩
  replace HX := Lib.hid hx
  replace H4 := Lib.hid (at_chg H4.out c1 nx)
  replace HR := Lib.hid (at_chg HR.out c1 rx)
  replace HB := Lib.hid (below_chg HB.out c1 (fun i h => by omega))
  clear hx c1
  (try simp only [] at HX)
  obtain ⟨x0, x1, x2, x3, x4, x5, x6, x7, z0, z1, z2, z3, z4, z5, z6, z7⟩ := at8 HR.out
  go_wp2_with (fail)
  clear x0 x1 x2 x3 x4 x5 x6 x7 z0 z1 z2 z3 z4 z5 z6 z7
  replace HX := Lib.hid (at_set_ne (b' := r) (i := 3) (v := .int .u8 n) HX.out (fun h => rx h.symm))
  replace H4 := Lib.hid (at_set_ne (b' := r) (i := 3) (v := .int .u8 n) H4.out r4)
  replace HR : Hid (At (u3.setCell ⟨r, 3, none⟩ (.int .u8 n)) r #[.string k, .int .u64 p, .int .u32 l, .int .u8 n, .int .u8 0, .int .u32 0, .int .u64 0, .string ⟨#[]⟩] 27) := Lib.hid (at_set' HR.out rfl)
  replace HB := Lib.hid (below_new (b := r) (i := 3) (v := .int .u8 n) HB.out rw')
  generalize u3.setCell ⟨r, 3, none⟩ (.int .u8 n) = v3 at *
  refine (N4.out _ _ HX.out).mono ?_
  rintro e u4 ⟨rfl, hx, c1⟩
  replace HX := Lib.hid hx
  replace H4 := Lib.hid (at_chg H4.out c1 nx)
  replace HR := Lib.hid (at_chg HR.out c1 rx)
  replace HB := Lib.hid (below_chg HB.out c1 (fun i h => by omega))
  clear hx c1
  (try simp only [] at HX)
  obtain ⟨x0, x1, x2, x3, x4, x5, x6, x7, z0, z1, z2, z3, z4, z5, z6, z7⟩ := at8 HR.out
  go_wp2_with (fail)
  clear x0 x1 x2 x3 x4 x5 x6 x7 z0 z1 z2 z3 z4 z5 z6 z7
  replace HX := Lib.hid (at_set_ne (b' := r) (i := 4) (v := .int .u8 d) HX.out (fun h => rx h.symm))
  replace H4 := Lib.hid (at_set_ne (b' := r) (i := 4) (v := .int .u8 d) H4.out r4)
  replace HR : Hid (At (u4.setCell ⟨r, 4, none⟩ (.int .u8 d)) r #[.string k, .int .u64 p, .int .u32 l, .int .u8 n, .int .u8 d, .int .u32 0, .int .u64 0, .string ⟨#[]⟩] 27) := Lib.hid (at_set' HR.out rfl)
  replace HB := Lib.hid (below_new (b := r) (i := 4) (v := .int .u8 d) HB.out rw')
  generalize u4.setCell ⟨r, 4, none⟩ (.int .u8 d) = v4 at *
  refine (N5.out _ _ HX.out).mono ?_
  rintro e u5 ⟨rfl, hx, c1⟩
  replace HX := Lib.hid hx
  replace H4 := Lib.hid (at_chg H4.out c1 nx)
  replace HR := Lib.hid (at_chg HR.out c1 rx)
  replace HB := Lib.hid (below_chg HB.out c1 (fun i h => by omega))
  clear hx c1
  (try simp only [] at HX)
  obtain ⟨x0, x1, x2, x3, x4, x5, x6, x7, z0, z1, z2, z3, z4, z5, z6, z7⟩ := at8 HR.out
  go_wp2_with (fail)
  clear x0 x1 x2 x3 x4 x5 x6 x7 z0 z1 z2 z3 z4 z5 z6 z7
  replace HX := Lib.hid (at_set_ne (b' := r) (i := 5) (v := .int .u32 f) HX.out (fun h => rx h.symm))
  replace H4 := Lib.hid (at_set_ne (b' := r) (i := 5) (v := .int .u32 f) H4.out r4)
  replace HR : Hid (At (u5.setCell ⟨r, 5, none⟩ (.int .u32 f)) r #[.string k, .int .u64 p, .int .u32 l, .int .u8 n, .int .u8 d, .int .u32 f, .int .u64 0, .string ⟨#[]⟩] 27) := Lib.hid (at_set' HR.out rfl)
  replace HB := Lib.hid (below_new (b := r) (i := 5) (v := .int .u32 f) HB.out rw')
  generalize u5.setCell ⟨r, 5, none⟩ (.int .u32 f) = v5 at *
  refine (N6.out _ _ HX.out).mono ?_
  rintro e u6 ⟨rfl, hx, c1⟩
  replace HX := Lib.hid hx
  replace H4 := Lib.hid (at_chg H4.out c1 nx)
  replace HR := Lib.hid (at_chg HR.out c1 rx)
  replace HB := Lib.hid (below_chg HB.out c1 (fun i h => by omega))
  clear hx c1
  (try simp only [] at HX)
  obtain ⟨x0, x1, x2, x3, x4, x5, x6, x7, z0, z1, z2, z3, z4, z5, z6, z7⟩ := at8 HR.out
  go_wp2_with (fail)
  clear x0 x1 x2 x3 x4 x5 x6 x7 z0 z1 z2 z3 z4 z5 z6 z7
  replace HX := Lib.hid (at_set_ne (b' := r) (i := 6) (v := .int .u64 x) HX.out (fun h => rx h.symm))
  replace H4 := Lib.hid (at_set_ne (b' := r) (i := 6) (v := .int .u64 x) H4.out r4)
  replace HR : Hid (At (u6.setCell ⟨r, 6, none⟩ (.int .u64 x)) r #[.string k, .int .u64 p, .int .u32 l, .int .u8 n, .int .u8 d, .int .u32 f, .int .u64 x, .string ⟨#[]⟩] 27) := Lib.hid (at_set' HR.out rfl)
  replace HB := Lib.hid (below_new (b := r) (i := 6) (v := .int .u64 x) HB.out rw')
  generalize u6.setCell ⟨r, 6, none⟩ (.int .u64 x) = v6 at *
  refine (N7.out _ _ HX.out).mono ?_
  rintro e u7 ⟨rfl, hx, c1⟩
  replace HX := Lib.hid hx
  replace H4 := Lib.hid (at_chg H4.out c1 nx)
  replace HR := Lib.hid (at_chg HR.out c1 rx)
  replace HB := Lib.hid (below_chg HB.out c1 (fun i h => by omega))
  clear hx c1
  (try simp only [] at HX)
  obtain ⟨x0, x1, x2, x3, x4, x5, x6, x7, z0, z1, z2, z3, z4, z5, z6, z7⟩ := at8 HR.out
  obtain ⟨q0, q1, q2, -⟩ := at3 (show At u7 (w.heap.size + 1) #[.string s, .int .i64 a8, .int .i64 e8] 67 from HX.out)
  go_wp2_with (fail)
  clear x0 x1 x2 x3 x4 x5 x6 x7 z0 z1 z2 z3 z4 z5 z6 z7
  replace HX := Lib.hid (at_set_ne (b' := r) (i := 7) (v := .string b) HX.out (fun h => rx h.symm))
  replace H4 := Lib.hid (at_set_ne (b' := r) (i := 7) (v := .string b) H4.out r4)
  replace HR : Hid (At (u7.setCell ⟨r, 7, none⟩ (.string b)) r #[.string k, .int .u64 p, .int .u32 l, .int .u8 n, .int .u8 d, .int .u32 f, .int .u64 x, .string b] 27) := Lib.hid (at_set' HR.out rfl)
  replace HB := Lib.hid (below_new (b := r) (i := 7) (v := .string b) HB.out rw')
  generalize u7.setCell ⟨r, 7, none⟩ (.string b) = v7 at *
  clear q0 q1 q2
  obtain ⟨q0, q1, q2, -⟩ := at3 (show At v7 (w.heap.size + 1) #[.string s, .int .i64 a8, .int .i64 e8] 67 from HX.out)
  obtain ⟨y0, y1, y2, y3, y4, y5, y6, y7, w0_, w1_, w2_, w3_, w4_, w5_, w6_, w7_⟩ := at8 H4.out
  go_region
  go_wp2_with (fail)
  clear q0 q1 q2 y0 y1 y2 y3 y4 y5 y6 y7 w0_ w1_ w2_ w3_ w4_ w5_ w6_ w7_
  have HS := Lib.hid (at_drew (at_set8 (v0 := .string ⟨#[]⟩) (v1 := .int .u64 0) (v2 := .int .u32 0) (v3 := .int .u8 0) (v4 := .int .u8 0) (v5 := .int .u32 0) (v6 := .int .u64 0) (v7 := .string ⟨#[]⟩) H4.out))
  have HT := Lib.hid (Below.drew (below_set8 (v0 := .string ⟨#[]⟩) (v1 := .int .u64 0) (v2 := .int .u32 0) (v3 := .int .u8 0) (v4 := .int .u8 0) (v5 := .int .u32 0) (v6 := .int .u64 0) (v7 := .string ⟨#[]⟩) HB.out (Nat.le_refl _)))
  clear HX HR HB H4
  generalize ((((((((v7.setCell ⟨w.heap.size, 0, none⟩ (.string ⟨#[]⟩)).setCell ⟨w.heap.size, 1, none⟩ (.int .u64 0)).setCell ⟨w.heap.size, 2, none⟩ (.int .u32 0)).setCell ⟨w.heap.size, 3, none⟩ (.int .u8 0)).setCell ⟨w.heap.size, 4, none⟩ (.int .u8 0)).setCell ⟨w.heap.size, 5, none⟩ (.int .u32 0)).setCell ⟨w.heap.size, 6, none⟩ (.int .u64 0)).setCell ⟨w.heap.size, 7, none⟩ (.string ⟨#[]⟩)).drew = wz at *
  obtain ⟨zz0, zz1, zz2, zz3, zz4, zz5, zz6, zz7, -⟩ := at8 HS.out
  refine bodyPost_ret (by simp [results, Try.results26, go_sem, zz0, zz1, zz2, zz3, zz4, zz5, zz6, zz7]; try rfl) rfl ?_
  exact ⟨rfl, HT.out⟩
set_option maxRecDepth 100000 in
set_option maxHeartbeats 3200000 in
theorem get_vF (s : ByteArray) (a : Int) (w : World) (hs : s.size ≤ 900000) (k : ByteArray) (p l n d f x : Int) (b : ByteArray) (a1 e1 a2 e2 a3 e3 a4 e4 a5 e5 a6 e6 a7 e7 a8 e8 : Int) (g0 : rdT s a 0 250 = (k, a1, e1)) (g1 : rdN s a1 e1 18446744073709551615 = (p, a2, e2)) (g2 : rdN s a2 e2 4294967295 = (l, a3, e3)) (g3 : rdN s a3 e3 255 = (n, a4, e4)) (g4 : rdN s a4 e4 255 = (d, a5, e5)) (g5 : rdN s a5 e5 4294967295 = (f, a6, e6)) (g6 : rdN s a6 e6 18446744073709551615 = (x, a7, e7)) (g7 : rdT s a7 e7 1024 = (b, a8, e8)) (hd : d = 3) (he : e8 = 0) (hm : mayR k p n d f x b = false) :
    Calls Try.prog 26 #[.string s, .int .i64 a] w fun e w' => e = .returned (recV ⟨#[]⟩ 0 0 0 0 0 0 ⟨#[]⟩ 0 3) ∧ Below w.heap.size w w' := by
  have hsm : s.size ≤ maxLen := by unfold maxLen; omega
  have N0 := Lib.hid (fun (b : Nat) (W : World) (h : At W b (rdr s a 0) 67) => text_rd b s a 0 250 W h hsm (by decide))
  have kz := rdT_size s a 0 250
  rw [g0] at N0 kz
  have N1 := Lib.hid (fun (b : Nat) (W : World) (h : At W b (rdr s a1 e1) 67) => number_any b s a1 e1 18446744073709551615 W h hsm)
  have r1 := rdN_range s a1 e1 18446744073709551615 (by decide)
  rw [g1] at N1 r1
  have N2 := Lib.hid (fun (b : Nat) (W : World) (h : At W b (rdr s a2 e2) 67) => number_any b s a2 e2 4294967295 W h hsm)
  have r2 := rdN_range s a2 e2 4294967295 (by decide)
  rw [g2] at N2 r2
  have N3 := Lib.hid (fun (b : Nat) (W : World) (h : At W b (rdr s a3 e3) 67) => number_any b s a3 e3 255 W h hsm)
  have r3 := rdN_range s a3 e3 255 (by decide)
  rw [g3] at N3 r3
  have N4 := Lib.hid (fun (b : Nat) (W : World) (h : At W b (rdr s a4 e4) 67) => number_any b s a4 e4 255 W h hsm)
  have r4 := rdN_range s a4 e4 255 (by decide)
  rw [g4] at N4 r4
  have N5 := Lib.hid (fun (b : Nat) (W : World) (h : At W b (rdr s a5 e5) 67) => number_any b s a5 e5 4294967295 W h hsm)
  have r5 := rdN_range s a5 e5 4294967295 (by decide)
  rw [g5] at N5 r5
  have N6 := Lib.hid (fun (b : Nat) (W : World) (h : At W b (rdr s a6 e6) 67) => number_any b s a6 e6 18446744073709551615 W h hsm)
  have r6 := rdN_range s a6 e6 18446744073709551615 (by decide)
  rw [g6] at N6 r6
  have N7 := Lib.hid (fun (b : Nat) (W : World) (h : At W b (rdr s a7 e7) 67) => text_rd b s a7 e7 1024 W h hsm (by decide))
  rw [g7] at N7
  simp only [] at kz r1 r2 r3 r4 r5 r6
  obtain ⟨r10, r11⟩ := r1
  obtain ⟨r20, r21⟩ := r2
  obtain ⟨r30, r31⟩ := r3
  obtain ⟨r40, r41⟩ := r4
  obtain ⟨r50, r51⟩ := r5
  obtain ⟨r60, r61⟩ := r6
  have cd : (d == 3) = true := beq_iff_eq.2 hd
  have ce : (e8 != 0) = false := by rw [he]; rfl
  have hy := fun W => may_any k p l n d f x b W (by omega)
  rw [hm] at hy
  have HY := Lib.hid hy
  clear hy hm
  clear g0 g1 g2 g3 g4 g5 g6 g7 he hd
  go_enter Try.func26, Try.ntmps26
  go_wp2_with (fail)
  have H4 := Lib.hid (at_alloc (o := .cells (rdr s a 0) 67) (at_new w #[.string ⟨#[]⟩, .int .u64 0, .int .u32 0, .int .u8 0, .int .u8 0, .int .u32 0, .int .u64 0, .string ⟨#[]⟩] 27))
  have HX := Lib.hid (at_new (w.alloc (.cells #[.string ⟨#[]⟩, .int .u64 0, .int .u32 0, .int .u8 0, .int .u8 0, .int .u32 0, .int .u64 0, .string ⟨#[]⟩] 27)) (rdr s a 0) 67)
  have HB := Lib.hid (below_al (o := .cells (rdr s a 0) 67) (below_al (o := .cells #[.string ⟨#[]⟩, .int .u64 0, .int .u32 0, .int .u8 0, .int .u8 0, .int .u32 0, .int .u64 0, .string ⟨#[]⟩] 27) (Below.refl w.heap.size w)))
  rw [World.size_alloc] at HX
  have nx : w.heap.size ≠ w.heap.size + 1 := by omega
  refine (N0.out _ _ HX.out).mono ?_
  rintro e w1 ⟨rfl, hx, c1⟩
  have HX1 := Lib.hid hx
  replace H4 := Lib.hid (at_chg H4.out c1 nx)
  replace HB := Lib.hid (below_chg HB.out c1 (fun i h => by omega))
  have lx : w.heap.size + 1 < w1.heap.size := At.lt hx
  clear hx c1 HX
  have HX := HX1
  clear HX1
  (try simp only [] at HX)
  go_wp2_with (fail)
  have HR := Lib.hid (at_new w1 #[.string k, .int .u64 0, .int .u32 0, .int .u8 0, .int .u8 0, .int .u32 0, .int .u64 0, .string ⟨#[]⟩] 27)
  replace H4 := Lib.hid (at_alloc (o := .cells #[.string k, .int .u64 0, .int .u32 0, .int .u8 0, .int .u8 0, .int .u32 0, .int .u64 0, .string ⟨#[]⟩] 27) H4.out)
  replace HX := Lib.hid (at_alloc (o := .cells #[.string k, .int .u64 0, .int .u32 0, .int .u8 0, .int .u8 0, .int .u32 0, .int .u64 0, .string ⟨#[]⟩] 27) HX.out)
  replace HB := Lib.hid (below_al (o := .cells #[.string k, .int .u64 0, .int .u32 0, .int .u8 0, .int .u8 0, .int .u32 0, .int .u64 0, .string ⟨#[]⟩] 27) HB.out)
  generalize w1.alloc (.cells #[.string k, .int .u64 0, .int .u32 0, .int .u8 0, .int .u8 0, .int .u32 0, .int .u64 0, .string ⟨#[]⟩] 27) = v0 at *
  generalize w1.heap.size = r at *
  have rx : r ≠ w.heap.size + 1 := by omega
  have r4 : w.heap.size ≠ r := by omega
  have rw' : w.heap.size ≤ r := by omega
  refine (N1.out _ _ HX.out).mono ?_
  rintro e u1 ⟨rfl, hx, c1⟩
  replace HX := Lib.hid hx
  replace H4 := Lib.hid (at_chg H4.out c1 nx)
  replace HR := Lib.hid (at_chg HR.out c1 rx)
  replace HB := Lib.hid (below_chg HB.out c1 (fun i h => by omega))
  clear hx c1
  (try simp only [] at HX)
  obtain ⟨x0, x1, x2, x3, x4, x5, x6, x7, z0, z1, z2, z3, z4, z5, z6, z7⟩ := at8 HR.out
  go_wp2_with (fail)
  clear x0 x1 x2 x3 x4 x5 x6 x7 z0 z1 z2 z3 z4 z5 z6 z7
  replace HX := Lib.hid (at_set_ne (b' := r) (i := 1) (v := .int .u64 p) HX.out (fun h => rx h.symm))
  replace H4 := Lib.hid (at_set_ne (b' := r) (i := 1) (v := .int .u64 p) H4.out r4)
  replace HR : Hid (At (u1.setCell ⟨r, 1, none⟩ (.int .u64 p)) r #[.string k, .int .u64 p, .int .u32 0, .int .u8 0, .int .u8 0, .int .u32 0, .int .u64 0, .string ⟨#[]⟩] 27) := Lib.hid (at_set' HR.out rfl)
  replace HB := Lib.hid (below_new (b := r) (i := 1) (v := .int .u64 p) HB.out rw')
  generalize u1.setCell ⟨r, 1, none⟩ (.int .u64 p) = v1 at *
  refine (N2.out _ _ HX.out).mono ?_
  rintro e u2 ⟨rfl, hx, c1⟩
  replace HX := Lib.hid hx
  replace H4 := Lib.hid (at_chg H4.out c1 nx)
  replace HR := Lib.hid (at_chg HR.out c1 rx)
  replace HB := Lib.hid (below_chg HB.out c1 (fun i h => by omega))
  clear hx c1
  (try simp only [] at HX)
  obtain ⟨x0, x1, x2, x3, x4, x5, x6, x7, z0, z1, z2, z3, z4, z5, z6, z7⟩ := at8 HR.out
  go_wp2_with (fail)
  clear x0 x1 x2 x3 x4 x5 x6 x7 z0 z1 z2 z3 z4 z5 z6 z7
  replace HX := Lib.hid (at_set_ne (b' := r) (i := 2) (v := .int .u32 l) HX.out (fun h => rx h.symm))
  replace H4 := Lib.hid (at_set_ne (b' := r) (i := 2) (v := .int .u32 l) H4.out r4)
  replace HR : Hid (At (u2.setCell ⟨r, 2, none⟩ (.int .u32 l)) r #[.string k, .int .u64 p, .int .u32 l, .int .u8 0, .int .u8 0, .int .u32 0, .int .u64 0, .string ⟨#[]⟩] 27) := Lib.hid (at_set' HR.out rfl)
  replace HB := Lib.hid (below_new (b := r) (i := 2) (v := .int .u32 l) HB.out rw')
  generalize u2.setCell ⟨r, 2, none⟩ (.int .u32 l) = v2 at *
  refine (N3.out _ _ HX.out).mono ?_
  rintro e u3 ⟨rfl, hx, c1⟩
  replace HX := Lib.hid hx
  replace H4 := Lib.hid (at_chg H4.out c1 nx)
  replace HR := Lib.hid (at_chg HR.out c1 rx)
  replace HB := Lib.hid (below_chg HB.out c1 (fun i h => by omega))
  clear hx c1
  (try simp only [] at HX)
  obtain ⟨x0, x1, x2, x3, x4, x5, x6, x7, z0, z1, z2, z3, z4, z5, z6, z7⟩ := at8 HR.out
  go_wp2_with (fail)
  clear x0 x1 x2 x3 x4 x5 x6 x7 z0 z1 z2 z3 z4 z5 z6 z7
  replace HX := Lib.hid (at_set_ne (b' := r) (i := 3) (v := .int .u8 n) HX.out (fun h => rx h.symm))
  replace H4 := Lib.hid (at_set_ne (b' := r) (i := 3) (v := .int .u8 n) H4.out r4)
  replace HR : Hid (At (u3.setCell ⟨r, 3, none⟩ (.int .u8 n)) r #[.string k, .int .u64 p, .int .u32 l, .int .u8 n, .int .u8 0, .int .u32 0, .int .u64 0, .string ⟨#[]⟩] 27) := Lib.hid (at_set' HR.out rfl)
  replace HB := Lib.hid (below_new (b := r) (i := 3) (v := .int .u8 n) HB.out rw')
  generalize u3.setCell ⟨r, 3, none⟩ (.int .u8 n) = v3 at *
  refine (N4.out _ _ HX.out).mono ?_
  rintro e u4 ⟨rfl, hx, c1⟩
  replace HX := Lib.hid hx
  replace H4 := Lib.hid (at_chg H4.out c1 nx)
  replace HR := Lib.hid (at_chg HR.out c1 rx)
  replace HB := Lib.hid (below_chg HB.out c1 (fun i h => by omega))
  clear hx c1
  (try simp only [] at HX)
  obtain ⟨x0, x1, x2, x3, x4, x5, x6, x7, z0, z1, z2, z3, z4, z5, z6, z7⟩ := at8 HR.out
  go_wp2_with (fail)
  clear x0 x1 x2 x3 x4 x5 x6 x7 z0 z1 z2 z3 z4 z5 z6 z7
  replace HX := Lib.hid (at_set_ne (b' := r) (i := 4) (v := .int .u8 d) HX.out (fun h => rx h.symm))
  replace H4 := Lib.hid (at_set_ne (b' := r) (i := 4) (v := .int .u8 d) H4.out r4)
  replace HR : Hid (At (u4.setCell ⟨r, 4, none⟩ (.int .u8 d)) r #[.string k, .int .u64 p, .int .u32 l, .int .u8 n, .int .u8 d, .int .u32 0, .int .u64 0, .string ⟨#[]⟩] 27) := Lib.hid (at_set' HR.out rfl)
  replace HB := Lib.hid (below_new (b := r) (i := 4) (v := .int .u8 d) HB.out rw')
  generalize u4.setCell ⟨r, 4, none⟩ (.int .u8 d) = v4 at *
  refine (N5.out _ _ HX.out).mono ?_
  rintro e u5 ⟨rfl, hx, c1⟩
  replace HX := Lib.hid hx
  replace H4 := Lib.hid (at_chg H4.out c1 nx)
  replace HR := Lib.hid (at_chg HR.out c1 rx)
  replace HB := Lib.hid (below_chg HB.out c1 (fun i h => by omega))
  clear hx c1
  (try simp only [] at HX)
  obtain ⟨x0, x1, x2, x3, x4, x5, x6, x7, z0, z1, z2, z3, z4, z5, z6, z7⟩ := at8 HR.out
  go_wp2_with (fail)
  clear x0 x1 x2 x3 x4 x5 x6 x7 z0 z1 z2 z3 z4 z5 z6 z7
  replace HX := Lib.hid (at_set_ne (b' := r) (i := 5) (v := .int .u32 f) HX.out (fun h => rx h.symm))
  replace H4 := Lib.hid (at_set_ne (b' := r) (i := 5) (v := .int .u32 f) H4.out r4)
  replace HR : Hid (At (u5.setCell ⟨r, 5, none⟩ (.int .u32 f)) r #[.string k, .int .u64 p, .int .u32 l, .int .u8 n, .int .u8 d, .int .u32 f, .int .u64 0, .string ⟨#[]⟩] 27) := Lib.hid (at_set' HR.out rfl)
  replace HB := Lib.hid (below_new (b := r) (i := 5) (v := .int .u32 f) HB.out rw')
  generalize u5.setCell ⟨r, 5, none⟩ (.int .u32 f) = v5 at *
  refine (N6.out _ _ HX.out).mono ?_
  rintro e u6 ⟨rfl, hx, c1⟩
  replace HX := Lib.hid hx
  replace H4 := Lib.hid (at_chg H4.out c1 nx)
  replace HR := Lib.hid (at_chg HR.out c1 rx)
  replace HB := Lib.hid (below_chg HB.out c1 (fun i h => by omega))
  clear hx c1
  (try simp only [] at HX)
  obtain ⟨x0, x1, x2, x3, x4, x5, x6, x7, z0, z1, z2, z3, z4, z5, z6, z7⟩ := at8 HR.out
  go_wp2_with (fail)
  clear x0 x1 x2 x3 x4 x5 x6 x7 z0 z1 z2 z3 z4 z5 z6 z7
  replace HX := Lib.hid (at_set_ne (b' := r) (i := 6) (v := .int .u64 x) HX.out (fun h => rx h.symm))
  replace H4 := Lib.hid (at_set_ne (b' := r) (i := 6) (v := .int .u64 x) H4.out r4)
  replace HR : Hid (At (u6.setCell ⟨r, 6, none⟩ (.int .u64 x)) r #[.string k, .int .u64 p, .int .u32 l, .int .u8 n, .int .u8 d, .int .u32 f, .int .u64 x, .string ⟨#[]⟩] 27) := Lib.hid (at_set' HR.out rfl)
  replace HB := Lib.hid (below_new (b := r) (i := 6) (v := .int .u64 x) HB.out rw')
  generalize u6.setCell ⟨r, 6, none⟩ (.int .u64 x) = v6 at *
  refine (N7.out _ _ HX.out).mono ?_
  rintro e u7 ⟨rfl, hx, c1⟩
  replace HX := Lib.hid hx
  replace H4 := Lib.hid (at_chg H4.out c1 nx)
  replace HR := Lib.hid (at_chg HR.out c1 rx)
  replace HB := Lib.hid (below_chg HB.out c1 (fun i h => by omega))
  clear hx c1
  (try simp only [] at HX)
  obtain ⟨x0, x1, x2, x3, x4, x5, x6, x7, z0, z1, z2, z3, z4, z5, z6, z7⟩ := at8 HR.out
  obtain ⟨q0, q1, q2, -⟩ := at3 (show At u7 (w.heap.size + 1) #[.string s, .int .i64 a8, .int .i64 e8] 67 from HX.out)
  go_wp2_with (fail)
  clear x0 x1 x2 x3 x4 x5 x6 x7 z0 z1 z2 z3 z4 z5 z6 z7
  replace HX := Lib.hid (at_set_ne (b' := r) (i := 7) (v := .string b) HX.out (fun h => rx h.symm))
  replace H4 := Lib.hid (at_set_ne (b' := r) (i := 7) (v := .string b) H4.out r4)
  replace HR : Hid (At (u7.setCell ⟨r, 7, none⟩ (.string b)) r #[.string k, .int .u64 p, .int .u32 l, .int .u8 n, .int .u8 d, .int .u32 f, .int .u64 x, .string b] 27) := Lib.hid (at_set' HR.out rfl)
  replace HB := Lib.hid (below_new (b := r) (i := 7) (v := .string b) HB.out rw')
  generalize u7.setCell ⟨r, 7, none⟩ (.string b) = v7 at *
  clear q0 q1 q2
  refine (HY.out _).mono ?_
  rintro e w9 ⟨rfl, b9⟩
  replace HX := Lib.hid (at_below HX.out b9)
  replace H4 := Lib.hid (at_below H4.out b9)
  replace HR := Lib.hid (at_below HR.out b9)
  replace HB := Lib.hid (below_on HB.out b9)
  clear b9
  obtain ⟨q0, q1, q2, -⟩ := at3 (show At w9 (w.heap.size + 1) #[.string s, .int .i64 a8, .int .i64 e8] 67 from HX.out)
  obtain ⟨y0, y1, y2, y3, y4, y5, y6, y7, w0_, w1_, w2_, w3_, w4_, w5_, w6_, w7_⟩ := at8 H4.out
  obtain ⟨x0, x1, x2, x3, x4, x5, x6, x7, z0, z1, z2, z3, z4, z5, z6, z7⟩ := at8 HR.out
  go_wp2_with (fail)
  clear x0 x1 x2 x3 x4 x5 x6 x7 z0 z1 z2 z3 z4 z5 z6 z7
  clear q0 q1 q2 y0 y1 y2 y3 y4 y5 y6 y7 w0_ w1_ w2_ w3_ w4_ w5_ w6_ w7_
  have HS := Lib.hid ((at_set8 (v0 := .string ⟨#[]⟩) (v1 := .int .u64 0) (v2 := .int .u32 0) (v3 := .int .u8 0) (v4 := .int .u8 0) (v5 := .int .u32 0) (v6 := .int .u64 0) (v7 := .string ⟨#[]⟩) H4.out))
  have HT := Lib.hid ((below_set8 (v0 := .string ⟨#[]⟩) (v1 := .int .u64 0) (v2 := .int .u32 0) (v3 := .int .u8 0) (v4 := .int .u8 0) (v5 := .int .u32 0) (v6 := .int .u64 0) (v7 := .string ⟨#[]⟩) HB.out (Nat.le_refl _)))
  clear HX HR HB H4
  generalize ((((((((w9.setCell ⟨w.heap.size, 0, none⟩ (.string ⟨#[]⟩)).setCell ⟨w.heap.size, 1, none⟩ (.int .u64 0)).setCell ⟨w.heap.size, 2, none⟩ (.int .u32 0)).setCell ⟨w.heap.size, 3, none⟩ (.int .u8 0)).setCell ⟨w.heap.size, 4, none⟩ (.int .u8 0)).setCell ⟨w.heap.size, 5, none⟩ (.int .u32 0)).setCell ⟨w.heap.size, 6, none⟩ (.int .u64 0)).setCell ⟨w.heap.size, 7, none⟩ (.string ⟨#[]⟩)) = wz at *
  obtain ⟨zz0, zz1, zz2, zz3, zz4, zz5, zz6, zz7, -⟩ := at8 HS.out
  refine bodyPost_ret (by simp [results, Try.results26, go_sem, zz0, zz1, zz2, zz3, zz4, zz5, zz6, zz7]; try rfl) rfl ?_
  exact ⟨rfl, HT.out⟩
set_option maxRecDepth 100000 in
set_option maxHeartbeats 3200000 in
theorem get_vO (s : ByteArray) (a : Int) (w : World) (hs : s.size ≤ 900000) (k : ByteArray) (p l n d f x : Int) (b : ByteArray) (a1 e1 a2 e2 a3 e3 a4 e4 a5 e5 a6 e6 a7 e7 a8 e8 : Int) (g0 : rdT s a 0 250 = (k, a1, e1)) (g1 : rdN s a1 e1 18446744073709551615 = (p, a2, e2)) (g2 : rdN s a2 e2 4294967295 = (l, a3, e3)) (g3 : rdN s a3 e3 255 = (n, a4, e4)) (g4 : rdN s a4 e4 255 = (d, a5, e5)) (g5 : rdN s a5 e5 4294967295 = (f, a6, e6)) (g6 : rdN s a6 e6 18446744073709551615 = (x, a7, e7)) (g7 : rdT s a7 e7 1024 = (b, a8, e8)) (hd : d = 3) (he : e8 = 0) (hm : mayR k p n d f x b = true) :
    Calls Try.prog 26 #[.string s, .int .i64 a] w fun e w' => e = .returned (recV k p l n d f x b a8 0) ∧ Below w.heap.size w w' := by
  have hsm : s.size ≤ maxLen := by unfold maxLen; omega
  have N0 := Lib.hid (fun (b : Nat) (W : World) (h : At W b (rdr s a 0) 67) => text_rd b s a 0 250 W h hsm (by decide))
  have kz := rdT_size s a 0 250
  rw [g0] at N0 kz
  have N1 := Lib.hid (fun (b : Nat) (W : World) (h : At W b (rdr s a1 e1) 67) => number_any b s a1 e1 18446744073709551615 W h hsm)
  have r1 := rdN_range s a1 e1 18446744073709551615 (by decide)
  rw [g1] at N1 r1
  have N2 := Lib.hid (fun (b : Nat) (W : World) (h : At W b (rdr s a2 e2) 67) => number_any b s a2 e2 4294967295 W h hsm)
  have r2 := rdN_range s a2 e2 4294967295 (by decide)
  rw [g2] at N2 r2
  have N3 := Lib.hid (fun (b : Nat) (W : World) (h : At W b (rdr s a3 e3) 67) => number_any b s a3 e3 255 W h hsm)
  have r3 := rdN_range s a3 e3 255 (by decide)
  rw [g3] at N3 r3
  have N4 := Lib.hid (fun (b : Nat) (W : World) (h : At W b (rdr s a4 e4) 67) => number_any b s a4 e4 255 W h hsm)
  have r4 := rdN_range s a4 e4 255 (by decide)
  rw [g4] at N4 r4
  have N5 := Lib.hid (fun (b : Nat) (W : World) (h : At W b (rdr s a5 e5) 67) => number_any b s a5 e5 4294967295 W h hsm)
  have r5 := rdN_range s a5 e5 4294967295 (by decide)
  rw [g5] at N5 r5
  have N6 := Lib.hid (fun (b : Nat) (W : World) (h : At W b (rdr s a6 e6) 67) => number_any b s a6 e6 18446744073709551615 W h hsm)
  have r6 := rdN_range s a6 e6 18446744073709551615 (by decide)
  rw [g6] at N6 r6
  have N7 := Lib.hid (fun (b : Nat) (W : World) (h : At W b (rdr s a7 e7) 67) => text_rd b s a7 e7 1024 W h hsm (by decide))
  rw [g7] at N7
  simp only [] at kz r1 r2 r3 r4 r5 r6
  obtain ⟨r10, r11⟩ := r1
  obtain ⟨r20, r21⟩ := r2
  obtain ⟨r30, r31⟩ := r3
  obtain ⟨r40, r41⟩ := r4
  obtain ⟨r50, r51⟩ := r5
  obtain ⟨r60, r61⟩ := r6
  have cd : (d == 3) = true := beq_iff_eq.2 hd
  have ce : (e8 != 0) = false := by rw [he]; rfl
  have hy := fun W => may_any k p l n d f x b W (by omega)
  rw [hm] at hy
  have HY := Lib.hid hy
  clear hy hm
  clear g0 g1 g2 g3 g4 g5 g6 g7 he hd
  go_enter Try.func26, Try.ntmps26
  go_wp2_with (fail)
  have H4 := Lib.hid (at_alloc (o := .cells (rdr s a 0) 67) (at_new w #[.string ⟨#[]⟩, .int .u64 0, .int .u32 0, .int .u8 0, .int .u8 0, .int .u32 0, .int .u64 0, .string ⟨#[]⟩] 27))
  have HX := Lib.hid (at_new (w.alloc (.cells #[.string ⟨#[]⟩, .int .u64 0, .int .u32 0, .int .u8 0, .int .u8 0, .int .u32 0, .int .u64 0, .string ⟨#[]⟩] 27)) (rdr s a 0) 67)
  have HB := Lib.hid (below_al (o := .cells (rdr s a 0) 67) (below_al (o := .cells #[.string ⟨#[]⟩, .int .u64 0, .int .u32 0, .int .u8 0, .int .u8 0, .int .u32 0, .int .u64 0, .string ⟨#[]⟩] 27) (Below.refl w.heap.size w)))
  rw [World.size_alloc] at HX
  have nx : w.heap.size ≠ w.heap.size + 1 := by omega
  refine (N0.out _ _ HX.out).mono ?_
  rintro e w1 ⟨rfl, hx, c1⟩
  have HX1 := Lib.hid hx
  replace H4 := Lib.hid (at_chg H4.out c1 nx)
  replace HB := Lib.hid (below_chg HB.out c1 (fun i h => by omega))
  have lx : w.heap.size + 1 < w1.heap.size := At.lt hx
  clear hx c1 HX
  have HX := HX1
  clear HX1
  (try simp only [] at HX)
  go_wp2_with (fail)
  have HR := Lib.hid (at_new w1 #[.string k, .int .u64 0, .int .u32 0, .int .u8 0, .int .u8 0, .int .u32 0, .int .u64 0, .string ⟨#[]⟩] 27)
  replace H4 := Lib.hid (at_alloc (o := .cells #[.string k, .int .u64 0, .int .u32 0, .int .u8 0, .int .u8 0, .int .u32 0, .int .u64 0, .string ⟨#[]⟩] 27) H4.out)
  replace HX := Lib.hid (at_alloc (o := .cells #[.string k, .int .u64 0, .int .u32 0, .int .u8 0, .int .u8 0, .int .u32 0, .int .u64 0, .string ⟨#[]⟩] 27) HX.out)
  replace HB := Lib.hid (below_al (o := .cells #[.string k, .int .u64 0, .int .u32 0, .int .u8 0, .int .u8 0, .int .u32 0, .int .u64 0, .string ⟨#[]⟩] 27) HB.out)
  generalize w1.alloc (.cells #[.string k, .int .u64 0, .int .u32 0, .int .u8 0, .int .u8 0, .int .u32 0, .int .u64 0, .string ⟨#[]⟩] 27) = v0 at *
  generalize w1.heap.size = r at *
  have rx : r ≠ w.heap.size + 1 := by omega
  have r4 : w.heap.size ≠ r := by omega
  have rw' : w.heap.size ≤ r := by omega
  refine (N1.out _ _ HX.out).mono ?_
  rintro e u1 ⟨rfl, hx, c1⟩
  replace HX := Lib.hid hx
  replace H4 := Lib.hid (at_chg H4.out c1 nx)
  replace HR := Lib.hid (at_chg HR.out c1 rx)
  replace HB := Lib.hid (below_chg HB.out c1 (fun i h => by omega))
  clear hx c1
  (try simp only [] at HX)
  obtain ⟨x0, x1, x2, x3, x4, x5, x6, x7, z0, z1, z2, z3, z4, z5, z6, z7⟩ := at8 HR.out
  go_wp2_with (fail)
  clear x0 x1 x2 x3 x4 x5 x6 x7 z0 z1 z2 z3 z4 z5 z6 z7
  replace HX := Lib.hid (at_set_ne (b' := r) (i := 1) (v := .int .u64 p) HX.out (fun h => rx h.symm))
  replace H4 := Lib.hid (at_set_ne (b' := r) (i := 1) (v := .int .u64 p) H4.out r4)
  replace HR : Hid (At (u1.setCell ⟨r, 1, none⟩ (.int .u64 p)) r #[.string k, .int .u64 p, .int .u32 0, .int .u8 0, .int .u8 0, .int .u32 0, .int .u64 0, .string ⟨#[]⟩] 27) := Lib.hid (at_set' HR.out rfl)
  replace HB := Lib.hid (below_new (b := r) (i := 1) (v := .int .u64 p) HB.out rw')
  generalize u1.setCell ⟨r, 1, none⟩ (.int .u64 p) = v1 at *
  refine (N2.out _ _ HX.out).mono ?_
  rintro e u2 ⟨rfl, hx, c1⟩
  replace HX := Lib.hid hx
  replace H4 := Lib.hid (at_chg H4.out c1 nx)
  replace HR := Lib.hid (at_chg HR.out c1 rx)
  replace HB := Lib.hid (below_chg HB.out c1 (fun i h => by omega))
  clear hx c1
  (try simp only [] at HX)
  obtain ⟨x0, x1, x2, x3, x4, x5, x6, x7, z0, z1, z2, z3, z4, z5, z6, z7⟩ := at8 HR.out
  go_wp2_with (fail)
  clear x0 x1 x2 x3 x4 x5 x6 x7 z0 z1 z2 z3 z4 z5 z6 z7
  replace HX := Lib.hid (at_set_ne (b' := r) (i := 2) (v := .int .u32 l) HX.out (fun h => rx h.symm))
  replace H4 := Lib.hid (at_set_ne (b' := r) (i := 2) (v := .int .u32 l) H4.out r4)
  replace HR : Hid (At (u2.setCell ⟨r, 2, none⟩ (.int .u32 l)) r #[.string k, .int .u64 p, .int .u32 l, .int .u8 0, .int .u8 0, .int .u32 0, .int .u64 0, .string ⟨#[]⟩] 27) := Lib.hid (at_set' HR.out rfl)
  replace HB := Lib.hid (below_new (b := r) (i := 2) (v := .int .u32 l) HB.out rw')
  generalize u2.setCell ⟨r, 2, none⟩ (.int .u32 l) = v2 at *
  refine (N3.out _ _ HX.out).mono ?_
  rintro e u3 ⟨rfl, hx, c1⟩
  replace HX := Lib.hid hx
  replace H4 := Lib.hid (at_chg H4.out c1 nx)
  replace HR := Lib.hid (at_chg HR.out c1 rx)
  replace HB := Lib.hid (below_chg HB.out c1 (fun i h => by omega))
  clear hx c1
  (try simp only [] at HX)
  obtain ⟨x0, x1, x2, x3, x4, x5, x6, x7, z0, z1, z2, z3, z4, z5, z6, z7⟩ := at8 HR.out
  go_wp2_with (fail)
  clear x0 x1 x2 x3 x4 x5 x6 x7 z0 z1 z2 z3 z4 z5 z6 z7
  replace HX := Lib.hid (at_set_ne (b' := r) (i := 3) (v := .int .u8 n) HX.out (fun h => rx h.symm))
  replace H4 := Lib.hid (at_set_ne (b' := r) (i := 3) (v := .int .u8 n) H4.out r4)
  replace HR : Hid (At (u3.setCell ⟨r, 3, none⟩ (.int .u8 n)) r #[.string k, .int .u64 p, .int .u32 l, .int .u8 n, .int .u8 0, .int .u32 0, .int .u64 0, .string ⟨#[]⟩] 27) := Lib.hid (at_set' HR.out rfl)
  replace HB := Lib.hid (below_new (b := r) (i := 3) (v := .int .u8 n) HB.out rw')
  generalize u3.setCell ⟨r, 3, none⟩ (.int .u8 n) = v3 at *
  refine (N4.out _ _ HX.out).mono ?_
  rintro e u4 ⟨rfl, hx, c1⟩
  replace HX := Lib.hid hx
  replace H4 := Lib.hid (at_chg H4.out c1 nx)
  replace HR := Lib.hid (at_chg HR.out c1 rx)
  replace HB := Lib.hid (below_chg HB.out c1 (fun i h => by omega))
  clear hx c1
  (try simp only [] at HX)
  obtain ⟨x0, x1, x2, x3, x4, x5, x6, x7, z0, z1, z2, z3, z4, z5, z6, z7⟩ := at8 HR.out
  go_wp2_with (fail)
  clear x0 x1 x2 x3 x4 x5 x6 x7 z0 z1 z2 z3 z4 z5 z6 z7
  replace HX := Lib.hid (at_set_ne (b' := r) (i := 4) (v := .int .u8 d) HX.out (fun h => rx h.symm))
  replace H4 := Lib.hid (at_set_ne (b' := r) (i := 4) (v := .int .u8 d) H4.out r4)
  replace HR : Hid (At (u4.setCell ⟨r, 4, none⟩ (.int .u8 d)) r #[.string k, .int .u64 p, .int .u32 l, .int .u8 n, .int .u8 d, .int .u32 0, .int .u64 0, .string ⟨#[]⟩] 27) := Lib.hid (at_set' HR.out rfl)
  replace HB := Lib.hid (below_new (b := r) (i := 4) (v := .int .u8 d) HB.out rw')
  generalize u4.setCell ⟨r, 4, none⟩ (.int .u8 d) = v4 at *
  refine (N5.out _ _ HX.out).mono ?_
  rintro e u5 ⟨rfl, hx, c1⟩
  replace HX := Lib.hid hx
  replace H4 := Lib.hid (at_chg H4.out c1 nx)
  replace HR := Lib.hid (at_chg HR.out c1 rx)
  replace HB := Lib.hid (below_chg HB.out c1 (fun i h => by omega))
  clear hx c1
  (try simp only [] at HX)
  obtain ⟨x0, x1, x2, x3, x4, x5, x6, x7, z0, z1, z2, z3, z4, z5, z6, z7⟩ := at8 HR.out
  go_wp2_with (fail)
  clear x0 x1 x2 x3 x4 x5 x6 x7 z0 z1 z2 z3 z4 z5 z6 z7
  replace HX := Lib.hid (at_set_ne (b' := r) (i := 5) (v := .int .u32 f) HX.out (fun h => rx h.symm))
  replace H4 := Lib.hid (at_set_ne (b' := r) (i := 5) (v := .int .u32 f) H4.out r4)
  replace HR : Hid (At (u5.setCell ⟨r, 5, none⟩ (.int .u32 f)) r #[.string k, .int .u64 p, .int .u32 l, .int .u8 n, .int .u8 d, .int .u32 f, .int .u64 0, .string ⟨#[]⟩] 27) := Lib.hid (at_set' HR.out rfl)
  replace HB := Lib.hid (below_new (b := r) (i := 5) (v := .int .u32 f) HB.out rw')
  generalize u5.setCell ⟨r, 5, none⟩ (.int .u32 f) = v5 at *
  refine (N6.out _ _ HX.out).mono ?_
  rintro e u6 ⟨rfl, hx, c1⟩
  replace HX := Lib.hid hx
  replace H4 := Lib.hid (at_chg H4.out c1 nx)
  replace HR := Lib.hid (at_chg HR.out c1 rx)
  replace HB := Lib.hid (below_chg HB.out c1 (fun i h => by omega))
  clear hx c1
  (try simp only [] at HX)
  obtain ⟨x0, x1, x2, x3, x4, x5, x6, x7, z0, z1, z2, z3, z4, z5, z6, z7⟩ := at8 HR.out
  go_wp2_with (fail)
  clear x0 x1 x2 x3 x4 x5 x6 x7 z0 z1 z2 z3 z4 z5 z6 z7
  replace HX := Lib.hid (at_set_ne (b' := r) (i := 6) (v := .int .u64 x) HX.out (fun h => rx h.symm))
  replace H4 := Lib.hid (at_set_ne (b' := r) (i := 6) (v := .int .u64 x) H4.out r4)
  replace HR : Hid (At (u6.setCell ⟨r, 6, none⟩ (.int .u64 x)) r #[.string k, .int .u64 p, .int .u32 l, .int .u8 n, .int .u8 d, .int .u32 f, .int .u64 x, .string ⟨#[]⟩] 27) := Lib.hid (at_set' HR.out rfl)
  replace HB := Lib.hid (below_new (b := r) (i := 6) (v := .int .u64 x) HB.out rw')
  generalize u6.setCell ⟨r, 6, none⟩ (.int .u64 x) = v6 at *
  refine (N7.out _ _ HX.out).mono ?_
  rintro e u7 ⟨rfl, hx, c1⟩
  replace HX := Lib.hid hx
  replace H4 := Lib.hid (at_chg H4.out c1 nx)
  replace HR := Lib.hid (at_chg HR.out c1 rx)
  replace HB := Lib.hid (below_chg HB.out c1 (fun i h => by omega))
  clear hx c1
  (try simp only [] at HX)
  obtain ⟨x0, x1, x2, x3, x4, x5, x6, x7, z0, z1, z2, z3, z4, z5, z6, z7⟩ := at8 HR.out
  obtain ⟨q0, q1, q2, -⟩ := at3 (show At u7 (w.heap.size + 1) #[.string s, .int .i64 a8, .int .i64 e8] 67 from HX.out)
  go_wp2_with (fail)
  clear x0 x1 x2 x3 x4 x5 x6 x7 z0 z1 z2 z3 z4 z5 z6 z7
  replace HX := Lib.hid (at_set_ne (b' := r) (i := 7) (v := .string b) HX.out (fun h => rx h.symm))
  replace H4 := Lib.hid (at_set_ne (b' := r) (i := 7) (v := .string b) H4.out r4)
  replace HR : Hid (At (u7.setCell ⟨r, 7, none⟩ (.string b)) r #[.string k, .int .u64 p, .int .u32 l, .int .u8 n, .int .u8 d, .int .u32 f, .int .u64 x, .string b] 27) := Lib.hid (at_set' HR.out rfl)
  replace HB := Lib.hid (below_new (b := r) (i := 7) (v := .string b) HB.out rw')
  generalize u7.setCell ⟨r, 7, none⟩ (.string b) = v7 at *
  clear q0 q1 q2
  refine (HY.out _).mono ?_
  rintro e w9 ⟨rfl, b9⟩
  replace HX := Lib.hid (at_below HX.out b9)
  replace H4 := Lib.hid (at_below H4.out b9)
  replace HR := Lib.hid (at_below HR.out b9)
  replace HB := Lib.hid (below_on HB.out b9)
  clear b9
  obtain ⟨q0, q1, q2, -⟩ := at3 (show At w9 (w.heap.size + 1) #[.string s, .int .i64 a8, .int .i64 e8] 67 from HX.out)
  obtain ⟨y0, y1, y2, y3, y4, y5, y6, y7, w0_, w1_, w2_, w3_, w4_, w5_, w6_, w7_⟩ := at8 H4.out
  obtain ⟨x0, x1, x2, x3, x4, x5, x6, x7, z0, z1, z2, z3, z4, z5, z6, z7⟩ := at8 HR.out
  go_wp2_with (fail)
  go_region
  go_wp2_with (fail)
  clear x0 x1 x2 x3 x4 x5 x6 x7 z0 z1 z2 z3 z4 z5 z6 z7
  clear q0 q1 q2 y0 y1 y2 y3 y4 y5 y6 y7 w0_ w1_ w2_ w3_ w4_ w5_ w6_ w7_
  have HS := Lib.hid (at_drew (at_set8 (v0 := .string k) (v1 := .int .u64 p) (v2 := .int .u32 l) (v3 := .int .u8 n) (v4 := .int .u8 d) (v5 := .int .u32 f) (v6 := .int .u64 x) (v7 := .string b) H4.out))
  have HT := Lib.hid (Below.drew (below_set8 (v0 := .string k) (v1 := .int .u64 p) (v2 := .int .u32 l) (v3 := .int .u8 n) (v4 := .int .u8 d) (v5 := .int .u32 f) (v6 := .int .u64 x) (v7 := .string b) HB.out (Nat.le_refl _)))
  clear HX HR HB H4
  generalize ((((((((w9.setCell ⟨w.heap.size, 0, none⟩ (.string k)).setCell ⟨w.heap.size, 1, none⟩ (.int .u64 p)).setCell ⟨w.heap.size, 2, none⟩ (.int .u32 l)).setCell ⟨w.heap.size, 3, none⟩ (.int .u8 n)).setCell ⟨w.heap.size, 4, none⟩ (.int .u8 d)).setCell ⟨w.heap.size, 5, none⟩ (.int .u32 f)).setCell ⟨w.heap.size, 6, none⟩ (.int .u64 x)).setCell ⟨w.heap.size, 7, none⟩ (.string b)).drew = wz at *
  obtain ⟨zz0, zz1, zz2, zz3, zz4, zz5, zz6, zz7, -⟩ := at8 HS.out
  refine bodyPost_ret (by simp [results, Try.results26, go_sem, zz0, zz1, zz2, zz3, zz4, zz5, zz6, zz7]; try rfl) rfl ?_
  exact ⟨rfl, HT.out⟩
end Go.Proofs.Ytlohnhjfdmldnaa.Rec

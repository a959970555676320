/- The program's codec: Decode (own text; printed by wip/tools/gen_framedec.py, a program of this session). -/
import Derived.Test.YtkddaedjgbakkaaFrameProg
import Derived.Test.YtkddaedjgbakkaaSets
namespace Go.Proofs.Ytkddaedjgbakkaa.Frame
open Go.Proofs.Ytkddaedjgbakkaa Go.RowKit Go.Proofs.Ytkddaedjgbakkaa.Mem Go.Proofs.Ytkddaedjgbakkaa.Sum
set_option linter.unusedVariables false
set_option linter.unusedSimpArgs false
theorem num4_sub (s : ByteArray) (m : Nat) (h : m + 4 ≤ s.size) : num4 (s.extract m s.size) 0 = num4 s m := by
  unfold num4
  rw [by_sub s m s.size 0 (by omega) (Nat.le_refl _), by_sub s m s.size 1 (by omega) (Nat.le_refl _), by_sub s m s.size 2 (by omega) (Nat.le_refl _), by_sub s m s.size 3 (by omega) (Nat.le_refl _)]
  rfl
def decV (r : Nat × Nat × Nat × ByteArray × Int) : Value := .tuple #[.agg #[.int .u8 (r.1 : Int), .int .u8 (r.2.1 : Int), .int .u8 (r.2.2.1 : Int), .string r.2.2.2.1], .int .i64 r.2.2.2.2]
theorem isTab_lt {w : World} {b : Nat} (h : IsTab w b) : b < w.heap.size := h.elim (fun h => World.block_lt_of_cell? w _ h.c0) (fun h => World.block_lt_of_cell? w _ h.c0)
theorem dec_short (c tb : Nat) (s : ByteArray) (w : World) (hc : Cod w c tb) (hs : s.size ≤ 999000) (h1 : s.size < 12) :
    Calls Try.prog 10 #[.pointer (some ⟨c, 0, none⟩), .string s] w fun e w' => e = .returned (decV (0, 0, 0, ⟨#[]⟩, 2)) ∧ IsTab w' tb ∧ Chg (fun x => x = tb) w w' := by
  have c1 : decide ((s.size : Int) < 12) = true := decide_eq_true (by omega)
  have HC := Lib.hid hc
  clear hc h1
  go_enter Try.func10, Try.ntmps10
  go_wp2_with (fail)
  have HO := Lib.hid (at_new w #[.int .u8 0, .int .u8 0, .int .u8 0, .string ⟨#[]⟩] 23)
  have HT := Lib.hid (cod_al (o := .cells #[.int .u8 0, .int .u8 0, .int .u8 0, .string ⟨#[]⟩] 23) HC.out).t
  have HG := Lib.hid (chg_alloc (o := .cells #[.int .u8 0, .int .u8 0, .int .u8 0, .string ⟨#[]⟩] 23) (chg_refl (fun x => x = tb) w))
  generalize w.alloc (.cells #[.int .u8 0, .int .u8 0, .int .u8 0, .string ⟨#[]⟩] 23) = w1 at *
  obtain ⟨zz0, zz1, zz2, zz3, -⟩ := at4 HO.out
  refine bodyPost_ret (by simp [results, Try.results10, go_sem, zz0, zz1, zz2, zz3]; try rfl) rfl ?_
  exact ⟨rfl, HT.out, HG.out⟩
set_option maxRecDepth 100000 in
set_option maxHeartbeats 1600000 in
theorem dec_2 (c tb : Nat) (s : ByteArray) (w : World) (hc : Cod w c tb) (hs : s.size ≤ 999000) (s0 s1 s2 s3 n m u : Nat) (B : ByteArray) (h12 : 12 ≤ s.size) (e0 : by' s 0 = s0) (e1 : by' s 1 = s1) (e2 : by' s 2 = s2) (e3 : by' s 3 = s3) (en : num4 s 4 = n) (em : more 0 (s.extract 0 (s.size - 4)) = m) (eu : num4 s (s.size - 4) = u) (eb : s.extract 8 (s.size - 4) = B) (h0 : ¬ s0 = 1) :
    Calls Try.prog 10 #[.pointer (some ⟨c, 0, none⟩), .string s] w fun e w' => e = .returned (decV (0, 0, 0, ⟨#[]⟩, 3)) ∧ IsTab w' tb ∧ Chg (fun x => x = tb) w w' := by
  have c1 : decide ((s.size : Int) < 12) = false := decide_eq_false (by omega)
  have HC := Lib.hid hc
  have l0 : 0 < s.size := by omega
  have l1 : 1 < s.size := by omega
  have l2 : 2 < s.size := by omega
  have l3 : 3 < s.size := by omega
  have a0 := by_at s 0 l0
  have a1 := by_at s 1 l1
  have a2 := by_at s 2 l2
  have a3 := by_at s 3 l3
  rw [e0] at a0
  rw [e1] at a1
  rw [e2] at a2
  rw [e3] at a3
  have hn := fun w => pnumber (s.extract 4 s.size) w (by rw [size_sub _ _ _ (Nat.le_refl _)]; omega)
  rw [num4_sub s 4 (by omega), en] at hn
  have HN := Lib.hid hn
  have hu := fun w => pnumber (s.extract (s.size - 4) s.size) w (by rw [size_sub _ _ _ (Nat.le_refl _)]; omega)
  rw [num4_sub s (s.size - 4) (by omega), eu] at hu
  have HU := Lib.hid hu
  have hS := fun (W : World) (h : IsTab W tb) => sum_any tb (s.extract 0 (s.size - 4)) W h (by rw [size_sub _ _ _ (by omega)]; omega)
  rw [em] at hS
  have HS1 := Lib.hid hS
  have hy := fun w => pmay s1 s2 s3 ⟨#[]⟩ w
  have k0 : ((s0 : Int) != 1) = true := bne_iff_ne.2 (by omega)
  clear hy
  have ty : tb ≠ w.heap.size := by
    have := isTab_lt hc.t
    omega
  have cy : c ≠ w.heap.size := by
    have := At.lt hc.a
    omega
  have ty6 : tb ≠ w.heap.size + 1 := by
    have := isTab_lt hc.t
    omega
  have cy6 : c ≠ w.heap.size + 1 := by
    have := At.lt hc.a
    omega
  have hsl : ∀ W : World, (Instr.slice 9 (.string s) none (some (.int .i64 ((s.size : Int) - 4))) none).run Try.prog W = .ok (.string (s.extract 0 (s.size - 4))) W := fun W => by
    rw [show (s.size : Int) - 4 = ((s.size - 4 : Nat) : Int) by omega]
    go_simp
  have hsr : ∀ W : World, (Instr.slice 9 (.string s) (some (.int .i64 ((s.size : Int) - 4))) none none).run Try.prog W = .ok (.string (s.extract (s.size - 4) s.size)) W := fun W => by
    rw [show (s.size : Int) - 4 = ((s.size - 4 : Nat) : Int) by omega]
    go_simp
  have hsb : ∀ W : World, (Instr.slice 9 (.string s) (some (.int .i64 8)) (some (.int .i64 ((s.size : Int) - 4))) none).run Try.prog W = .ok (.string B) W := fun W => by
    rw [show (s.size : Int) - 4 = ((s.size - 4 : Nat) : Int) by omega, ← eb]
    go_simp
    intro hh
    exfalso
    omega
  clear hc hn hu hS e0 e1 e2 e3 en em eu eb
  go_enter Try.func10, Try.ntmps10
  go_wp2_with (fail)
  go_region
  go_wp2_with (fail)
  have HO := Lib.hid (at_drew (at_alloc (o := .cells #[.int .u8 (s1 : Int), .int .u8 (s2 : Int), .int .u8 (s3 : Int), .string ⟨#[]⟩] 23) (at_new w #[.int .u8 0, .int .u8 0, .int .u8 0, .string ⟨#[]⟩] 23)))
  have HF := Lib.hid (at_drew (at_new (w.alloc (.cells #[.int .u8 0, .int .u8 0, .int .u8 0, .string ⟨#[]⟩] 23)) #[.int .u8 (s1 : Int), .int .u8 (s2 : Int), .int .u8 (s3 : Int), .string ⟨#[]⟩] 23))
  rw [World.size_alloc] at HF
  replace HC := Lib.hid (cod_dr (cod_al (o := .cells #[.int .u8 (s1 : Int), .int .u8 (s2 : Int), .int .u8 (s3 : Int), .string ⟨#[]⟩] 23) (cod_al (o := .cells #[.int .u8 0, .int .u8 0, .int .u8 0, .string ⟨#[]⟩] 23) HC.out)))
  have HG := Lib.hid (chg_drew (chg_alloc (o := .cells #[.int .u8 (s1 : Int), .int .u8 (s2 : Int), .int .u8 (s3 : Int), .string ⟨#[]⟩] 23) (chg_alloc (o := .cells #[.int .u8 0, .int .u8 0, .int .u8 0, .string ⟨#[]⟩] 23) (chg_refl (fun x => x = tb) w))))
  refine (HN.out _).mono ?_
  rintro e w1 ⟨rfl, b1⟩
  replace HO := Lib.hid (at_below HO.out b1)
  replace HF := Lib.hid (at_below HF.out b1)
  replace HC := Lib.hid (cod_below HC.out b1)
  replace HG := Lib.hid (chg_below HG.out b1)
  clear b1
  obtain ⟨x0, x1, x2, x3, f0, f1, f2, f3⟩ := at4 HO.out
  obtain ⟨y0, y1, y2, y3, g0, g1, g2, g3⟩ := at4 HF.out
  go_wp2_with (fail)
  clear x0 x1 x2 x3 f0 f1 f2 f3 y0 y1 y2 y3 g0 g1 g2 g3
  have HS := Lib.hid (at_set4 (v0 := .int .u8 0) (v1 := .int .u8 0) (v2 := .int .u8 0) (v3 := .string ⟨#[]⟩) HO.out)
  have HX : Chg (fun x => x = w.heap.size) w1 (((((w1.setCell ⟨w.heap.size, 0, none⟩ (.int .u8 0)).setCell ⟨w.heap.size, 1, none⟩ (.int .u8 0)).setCell ⟨w.heap.size, 2, none⟩ (.int .u8 0)).setCell ⟨w.heap.size, 3, none⟩ (.string ⟨#[]⟩))) := chg_set (chg_set (chg_set (chg_set (chg_refl _ _) rfl) rfl) rfl) rfl
  have HT2 := Lib.hid (is_chg HC.out.t HX ty)
  have HG2 : Hid (Chg (fun x => x = tb) w (((((w1.setCell ⟨w.heap.size, 0, none⟩ (.int .u8 0)).setCell ⟨w.heap.size, 1, none⟩ (.int .u8 0)).setCell ⟨w.heap.size, 2, none⟩ (.int .u8 0)).setCell ⟨w.heap.size, 3, none⟩ (.string ⟨#[]⟩)))) := Lib.hid (chg_set_new (chg_set_new (chg_set_new (chg_set_new HG.out (Nat.le_refl _)) (Nat.le_refl _)) (Nat.le_refl _)) (Nat.le_refl _))
  clear HX HO HG
  generalize ((((w1.setCell ⟨w.heap.size, 0, none⟩ (.int .u8 0)).setCell ⟨w.heap.size, 1, none⟩ (.int .u8 0)).setCell ⟨w.heap.size, 2, none⟩ (.int .u8 0)).setCell ⟨w.heap.size, 3, none⟩ (.string ⟨#[]⟩)) = wz at *
  obtain ⟨zz0, zz1, zz2, zz3, -⟩ := at4 HS.out
  refine bodyPost_ret (by simp [results, Try.results10, go_sem, zz0, zz1, zz2, zz3]; try rfl) rfl ?_
  exact ⟨rfl, HT2.out, HG2.out⟩
set_option maxRecDepth 100000 in
set_option maxHeartbeats 1600000 in
theorem dec_3 (c tb : Nat) (s : ByteArray) (w : World) (hc : Cod w c tb) (hs : s.size ≤ 999000) (s0 s1 s2 s3 n m u : Nat) (B : ByteArray) (h12 : 12 ≤ s.size) (e0 : by' s 0 = s0) (e1 : by' s 1 = s1) (e2 : by' s 2 = s2) (e3 : by' s 3 = s3) (en : num4 s 4 = n) (em : more 0 (s.extract 0 (s.size - 4)) = m) (eu : num4 s (s.size - 4) = u) (eb : s.extract 8 (s.size - 4) = B) (h0 : s0 = 1) (hm : mayF s1 s2 s3 = false) :
    Calls Try.prog 10 #[.pointer (some ⟨c, 0, none⟩), .string s] w fun e w' => e = .returned (decV (0, 0, 0, ⟨#[]⟩, 3)) ∧ IsTab w' tb ∧ Chg (fun x => x = tb) w w' := by
  have c1 : decide ((s.size : Int) < 12) = false := decide_eq_false (by omega)
  have HC := Lib.hid hc
  have l0 : 0 < s.size := by omega
  have l1 : 1 < s.size := by omega
  have l2 : 2 < s.size := by omega
  have l3 : 3 < s.size := by omega
  have a0 := by_at s 0 l0
  have a1 := by_at s 1 l1
  have a2 := by_at s 2 l2
  have a3 := by_at s 3 l3
  rw [e0] at a0
  rw [e1] at a1
  rw [e2] at a2
  rw [e3] at a3
  have hn := fun w => pnumber (s.extract 4 s.size) w (by rw [size_sub _ _ _ (Nat.le_refl _)]; omega)
  rw [num4_sub s 4 (by omega), en] at hn
  have HN := Lib.hid hn
  have hu := fun w => pnumber (s.extract (s.size - 4) s.size) w (by rw [size_sub _ _ _ (Nat.le_refl _)]; omega)
  rw [num4_sub s (s.size - 4) (by omega), eu] at hu
  have HU := Lib.hid hu
  have hS := fun (W : World) (h : IsTab W tb) => sum_any tb (s.extract 0 (s.size - 4)) W h (by rw [size_sub _ _ _ (by omega)]; omega)
  rw [em] at hS
  have HS1 := Lib.hid hS
  have hy := fun w => pmay s1 s2 s3 ⟨#[]⟩ w
  have k0 : ((s0 : Int) != 1) = false := by rw [h0]; rfl
  rw [hm] at hy
  have HY := Lib.hid hy
  clear hy hm
  have ty : tb ≠ w.heap.size := by
    have := isTab_lt hc.t
    omega
  have cy : c ≠ w.heap.size := by
    have := At.lt hc.a
    omega
  have ty6 : tb ≠ w.heap.size + 1 := by
    have := isTab_lt hc.t
    omega
  have cy6 : c ≠ w.heap.size + 1 := by
    have := At.lt hc.a
    omega
  have hsl : ∀ W : World, (Instr.slice 9 (.string s) none (some (.int .i64 ((s.size : Int) - 4))) none).run Try.prog W = .ok (.string (s.extract 0 (s.size - 4))) W := fun W => by
    rw [show (s.size : Int) - 4 = ((s.size - 4 : Nat) : Int) by omega]
    go_simp
  have hsr : ∀ W : World, (Instr.slice 9 (.string s) (some (.int .i64 ((s.size : Int) - 4))) none none).run Try.prog W = .ok (.string (s.extract (s.size - 4) s.size)) W := fun W => by
    rw [show (s.size : Int) - 4 = ((s.size - 4 : Nat) : Int) by omega]
    go_simp
  have hsb : ∀ W : World, (Instr.slice 9 (.string s) (some (.int .i64 8)) (some (.int .i64 ((s.size : Int) - 4))) none).run Try.prog W = .ok (.string B) W := fun W => by
    rw [show (s.size : Int) - 4 = ((s.size - 4 : Nat) : Int) by omega, ← eb]
    go_simp
    intro hh
    exfalso
    omega
  clear hc hn hu hS e0 e1 e2 e3 en em eu eb
  go_enter Try.func10, Try.ntmps10
  go_wp2_with (fail)
  go_region
  go_wp2_with (fail)
  have HO := Lib.hid (at_drew (at_alloc (o := .cells #[.int .u8 (s1 : Int), .int .u8 (s2 : Int), .int .u8 (s3 : Int), .string ⟨#[]⟩] 23) (at_new w #[.int .u8 0, .int .u8 0, .int .u8 0, .string ⟨#[]⟩] 23)))
  have HF := Lib.hid (at_drew (at_new (w.alloc (.cells #[.int .u8 0, .int .u8 0, .int .u8 0, .string ⟨#[]⟩] 23)) #[.int .u8 (s1 : Int), .int .u8 (s2 : Int), .int .u8 (s3 : Int), .string ⟨#[]⟩] 23))
  rw [World.size_alloc] at HF
  replace HC := Lib.hid (cod_dr (cod_al (o := .cells #[.int .u8 (s1 : Int), .int .u8 (s2 : Int), .int .u8 (s3 : Int), .string ⟨#[]⟩] 23) (cod_al (o := .cells #[.int .u8 0, .int .u8 0, .int .u8 0, .string ⟨#[]⟩] 23) HC.out)))
  have HG := Lib.hid (chg_drew (chg_alloc (o := .cells #[.int .u8 (s1 : Int), .int .u8 (s2 : Int), .int .u8 (s3 : Int), .string ⟨#[]⟩] 23) (chg_alloc (o := .cells #[.int .u8 0, .int .u8 0, .int .u8 0, .string ⟨#[]⟩] 23) (chg_refl (fun x => x = tb) w))))
  refine (HN.out _).mono ?_
  rintro e w1 ⟨rfl, b1⟩
  replace HO := Lib.hid (at_below HO.out b1)
  replace HF := Lib.hid (at_below HF.out b1)
  replace HC := Lib.hid (cod_below HC.out b1)
  replace HG := Lib.hid (chg_below HG.out b1)
  clear b1
  obtain ⟨x0, x1, x2, x3, f0, f1, f2, f3⟩ := at4 HO.out
  obtain ⟨y0, y1, y2, y3, g0, g1, g2, g3⟩ := at4 HF.out
  go_wp2_with (fail)
  clear x0 x1 x2 x3 f0 f1 f2 f3 y0 y1 y2 y3 g0 g1 g2 g3
  refine (HY.out _).mono ?_
  rintro e w2 ⟨rfl, b1⟩
  replace HO := Lib.hid (at_below HO.out b1)
  replace HF := Lib.hid (at_below HF.out b1)
  replace HC := Lib.hid (cod_below HC.out b1)
  replace HG := Lib.hid (chg_below HG.out b1)
  clear b1
  obtain ⟨x0, x1, x2, x3, f0, f1, f2, f3⟩ := at4 HO.out
  obtain ⟨y0, y1, y2, y3, g0, g1, g2, g3⟩ := at4 HF.out
  go_wp2_with (fail)
  clear x0 x1 x2 x3 f0 f1 f2 f3 y0 y1 y2 y3 g0 g1 g2 g3
  have HS := Lib.hid (at_set4 (v0 := .int .u8 0) (v1 := .int .u8 0) (v2 := .int .u8 0) (v3 := .string ⟨#[]⟩) HO.out)
  have HX : Chg (fun x => x = w.heap.size) w2 (((((w2.setCell ⟨w.heap.size, 0, none⟩ (.int .u8 0)).setCell ⟨w.heap.size, 1, none⟩ (.int .u8 0)).setCell ⟨w.heap.size, 2, none⟩ (.int .u8 0)).setCell ⟨w.heap.size, 3, none⟩ (.string ⟨#[]⟩))) := chg_set (chg_set (chg_set (chg_set (chg_refl _ _) rfl) rfl) rfl) rfl
  have HT2 := Lib.hid (is_chg HC.out.t HX ty)
  have HG2 : Hid (Chg (fun x => x = tb) w (((((w2.setCell ⟨w.heap.size, 0, none⟩ (.int .u8 0)).setCell ⟨w.heap.size, 1, none⟩ (.int .u8 0)).setCell ⟨w.heap.size, 2, none⟩ (.int .u8 0)).setCell ⟨w.heap.size, 3, none⟩ (.string ⟨#[]⟩)))) := Lib.hid (chg_set_new (chg_set_new (chg_set_new (chg_set_new HG.out (Nat.le_refl _)) (Nat.le_refl _)) (Nat.le_refl _)) (Nat.le_refl _))
  clear HX HO HG
  generalize ((((w2.setCell ⟨w.heap.size, 0, none⟩ (.int .u8 0)).setCell ⟨w.heap.size, 1, none⟩ (.int .u8 0)).setCell ⟨w.heap.size, 2, none⟩ (.int .u8 0)).setCell ⟨w.heap.size, 3, none⟩ (.string ⟨#[]⟩)) = wz at *
  obtain ⟨zz0, zz1, zz2, zz3, -⟩ := at4 HS.out
  refine bodyPost_ret (by simp [results, Try.results10, go_sem, zz0, zz1, zz2, zz3]; try rfl) rfl ?_
  exact ⟨rfl, HT2.out, HG2.out⟩
set_option maxRecDepth 100000 in
set_option maxHeartbeats 1600000 in
theorem dec_4 (c tb : Nat) (s : ByteArray) (w : World) (hc : Cod w c tb) (hs : s.size ≤ 999000) (s0 s1 s2 s3 n m u : Nat) (B : ByteArray) (h12 : 12 ≤ s.size) (e0 : by' s 0 = s0) (e1 : by' s 1 = s1) (e2 : by' s 2 = s2) (e3 : by' s 3 = s3) (en : num4 s 4 = n) (em : more 0 (s.extract 0 (s.size - 4)) = m) (eu : num4 s (s.size - 4) = u) (eb : s.extract 8 (s.size - 4) = B) (h0 : s0 = 1) (hm : mayF s1 s2 s3 = true) (h4 : 1048576 < n) :
    Calls Try.prog 10 #[.pointer (some ⟨c, 0, none⟩), .string s] w fun e w' => e = .returned (decV (0, 0, 0, ⟨#[]⟩, 4)) ∧ IsTab w' tb ∧ Chg (fun x => x = tb) w w' := by
  have c1 : decide ((s.size : Int) < 12) = false := decide_eq_false (by omega)
  have HC := Lib.hid hc
  have l0 : 0 < s.size := by omega
  have l1 : 1 < s.size := by omega
  have l2 : 2 < s.size := by omega
  have l3 : 3 < s.size := by omega
  have a0 := by_at s 0 l0
  have a1 := by_at s 1 l1
  have a2 := by_at s 2 l2
  have a3 := by_at s 3 l3
  rw [e0] at a0
  rw [e1] at a1
  rw [e2] at a2
  rw [e3] at a3
  have hn := fun w => pnumber (s.extract 4 s.size) w (by rw [size_sub _ _ _ (Nat.le_refl _)]; omega)
  rw [num4_sub s 4 (by omega), en] at hn
  have HN := Lib.hid hn
  have hu := fun w => pnumber (s.extract (s.size - 4) s.size) w (by rw [size_sub _ _ _ (Nat.le_refl _)]; omega)
  rw [num4_sub s (s.size - 4) (by omega), eu] at hu
  have HU := Lib.hid hu
  have hS := fun (W : World) (h : IsTab W tb) => sum_any tb (s.extract 0 (s.size - 4)) W h (by rw [size_sub _ _ _ (by omega)]; omega)
  rw [em] at hS
  have HS1 := Lib.hid hS
  have hy := fun w => pmay s1 s2 s3 ⟨#[]⟩ w
  have k0 : ((s0 : Int) != 1) = false := by rw [h0]; rfl
  rw [hm] at hy
  have HY := Lib.hid hy
  clear hy hm
  have k4 : decide (1048576 < (n : Int)) = true := decide_eq_true (by omega)
  have ty : tb ≠ w.heap.size := by
    have := isTab_lt hc.t
    omega
  have cy : c ≠ w.heap.size := by
    have := At.lt hc.a
    omega
  have ty6 : tb ≠ w.heap.size + 1 := by
    have := isTab_lt hc.t
    omega
  have cy6 : c ≠ w.heap.size + 1 := by
    have := At.lt hc.a
    omega
  have hsl : ∀ W : World, (Instr.slice 9 (.string s) none (some (.int .i64 ((s.size : Int) - 4))) none).run Try.prog W = .ok (.string (s.extract 0 (s.size - 4))) W := fun W => by
    rw [show (s.size : Int) - 4 = ((s.size - 4 : Nat) : Int) by omega]
    go_simp
  have hsr : ∀ W : World, (Instr.slice 9 (.string s) (some (.int .i64 ((s.size : Int) - 4))) none none).run Try.prog W = .ok (.string (s.extract (s.size - 4) s.size)) W := fun W => by
    rw [show (s.size : Int) - 4 = ((s.size - 4 : Nat) : Int) by omega]
    go_simp
  have hsb : ∀ W : World, (Instr.slice 9 (.string s) (some (.int .i64 8)) (some (.int .i64 ((s.size : Int) - 4))) none).run Try.prog W = .ok (.string B) W := fun W => by
    rw [show (s.size : Int) - 4 = ((s.size - 4 : Nat) : Int) by omega, ← eb]
    go_simp
    intro hh
    exfalso
    omega
  clear hc hn hu hS e0 e1 e2 e3 en em eu eb
  go_enter Try.func10, Try.ntmps10
  go_wp2_with (fail)
  go_region
  go_wp2_with (fail)
  have HO := Lib.hid (at_drew (at_alloc (o := .cells #[.int .u8 (s1 : Int), .int .u8 (s2 : Int), .int .u8 (s3 : Int), .string ⟨#[]⟩] 23) (at_new w #[.int .u8 0, .int .u8 0, .int .u8 0, .string ⟨#[]⟩] 23)))
  have HF := Lib.hid (at_drew (at_new (w.alloc (.cells #[.int .u8 0, .int .u8 0, .int .u8 0, .string ⟨#[]⟩] 23)) #[.int .u8 (s1 : Int), .int .u8 (s2 : Int), .int .u8 (s3 : Int), .string ⟨#[]⟩] 23))
  rw [World.size_alloc] at HF
  replace HC := Lib.hid (cod_dr (cod_al (o := .cells #[.int .u8 (s1 : Int), .int .u8 (s2 : Int), .int .u8 (s3 : Int), .string ⟨#[]⟩] 23) (cod_al (o := .cells #[.int .u8 0, .int .u8 0, .int .u8 0, .string ⟨#[]⟩] 23) HC.out)))
  have HG := Lib.hid (chg_drew (chg_alloc (o := .cells #[.int .u8 (s1 : Int), .int .u8 (s2 : Int), .int .u8 (s3 : Int), .string ⟨#[]⟩] 23) (chg_alloc (o := .cells #[.int .u8 0, .int .u8 0, .int .u8 0, .string ⟨#[]⟩] 23) (chg_refl (fun x => x = tb) w))))
  refine (HN.out _).mono ?_
  rintro e w1 ⟨rfl, b1⟩
  replace HO := Lib.hid (at_below HO.out b1)
  replace HF := Lib.hid (at_below HF.out b1)
  replace HC := Lib.hid (cod_below HC.out b1)
  replace HG := Lib.hid (chg_below HG.out b1)
  clear b1
  obtain ⟨x0, x1, x2, x3, f0, f1, f2, f3⟩ := at4 HO.out
  obtain ⟨y0, y1, y2, y3, g0, g1, g2, g3⟩ := at4 HF.out
  go_wp2_with (fail)
  clear x0 x1 x2 x3 f0 f1 f2 f3 y0 y1 y2 y3 g0 g1 g2 g3
  refine (HY.out _).mono ?_
  rintro e w2 ⟨rfl, b1⟩
  replace HO := Lib.hid (at_below HO.out b1)
  replace HF := Lib.hid (at_below HF.out b1)
  replace HC := Lib.hid (cod_below HC.out b1)
  replace HG := Lib.hid (chg_below HG.out b1)
  clear b1
  obtain ⟨x0, x1, x2, x3, f0, f1, f2, f3⟩ := at4 HO.out
  obtain ⟨y0, y1, y2, y3, g0, g1, g2, g3⟩ := at4 HF.out
  go_wp2_with (fail)
  clear x0 x1 x2 x3 f0 f1 f2 f3 y0 y1 y2 y3 g0 g1 g2 g3
  have HS := Lib.hid (at_set4 (v0 := .int .u8 0) (v1 := .int .u8 0) (v2 := .int .u8 0) (v3 := .string ⟨#[]⟩) HO.out)
  have HX : Chg (fun x => x = w.heap.size) w2 (((((w2.setCell ⟨w.heap.size, 0, none⟩ (.int .u8 0)).setCell ⟨w.heap.size, 1, none⟩ (.int .u8 0)).setCell ⟨w.heap.size, 2, none⟩ (.int .u8 0)).setCell ⟨w.heap.size, 3, none⟩ (.string ⟨#[]⟩))) := chg_set (chg_set (chg_set (chg_set (chg_refl _ _) rfl) rfl) rfl) rfl
  have HT2 := Lib.hid (is_chg HC.out.t HX ty)
  have HG2 : Hid (Chg (fun x => x = tb) w (((((w2.setCell ⟨w.heap.size, 0, none⟩ (.int .u8 0)).setCell ⟨w.heap.size, 1, none⟩ (.int .u8 0)).setCell ⟨w.heap.size, 2, none⟩ (.int .u8 0)).setCell ⟨w.heap.size, 3, none⟩ (.string ⟨#[]⟩)))) := Lib.hid (chg_set_new (chg_set_new (chg_set_new (chg_set_new HG.out (Nat.le_refl _)) (Nat.le_refl _)) (Nat.le_refl _)) (Nat.le_refl _))
  clear HX HO HG
  generalize ((((w2.setCell ⟨w.heap.size, 0, none⟩ (.int .u8 0)).setCell ⟨w.heap.size, 1, none⟩ (.int .u8 0)).setCell ⟨w.heap.size, 2, none⟩ (.int .u8 0)).setCell ⟨w.heap.size, 3, none⟩ (.string ⟨#[]⟩)) = wz at *
  obtain ⟨zz0, zz1, zz2, zz3, -⟩ := at4 HS.out
  refine bodyPost_ret (by simp [results, Try.results10, go_sem, zz0, zz1, zz2, zz3]; try rfl) rfl ?_
  exact ⟨rfl, HT2.out, HG2.out⟩
set_option maxRecDepth 100000 in
set_option maxHeartbeats 1600000 in
theorem dec_5 (c tb : Nat) (s : ByteArray) (w : World) (hc : Cod w c tb) (hs : s.size ≤ 999000) (s0 s1 s2 s3 n m u : Nat) (B : ByteArray) (h12 : 12 ≤ s.size) (e0 : by' s 0 = s0) (e1 : by' s 1 = s1) (e2 : by' s 2 = s2) (e3 : by' s 3 = s3) (en : num4 s 4 = n) (em : more 0 (s.extract 0 (s.size - 4)) = m) (eu : num4 s (s.size - 4) = u) (eb : s.extract 8 (s.size - 4) = B) (h0 : s0 = 1) (hm : mayF s1 s2 s3 = true) (h4 : ¬ 1048576 < n) (h5 : s.size < 12 + n) :
    Calls Try.prog 10 #[.pointer (some ⟨c, 0, none⟩), .string s] w fun e w' => e = .returned (decV (0, 0, 0, ⟨#[]⟩, 2)) ∧ IsTab w' tb ∧ Chg (fun x => x = tb) w w' := by
  have c1 : decide ((s.size : Int) < 12) = false := decide_eq_false (by omega)
  have HC := Lib.hid hc
  have l0 : 0 < s.size := by omega
  have l1 : 1 < s.size := by omega
  have l2 : 2 < s.size := by omega
  have l3 : 3 < s.size := by omega
  have a0 := by_at s 0 l0
  have a1 := by_at s 1 l1
  have a2 := by_at s 2 l2
  have a3 := by_at s 3 l3
  rw [e0] at a0
  rw [e1] at a1
  rw [e2] at a2
  rw [e3] at a3
  have hn := fun w => pnumber (s.extract 4 s.size) w (by rw [size_sub _ _ _ (Nat.le_refl _)]; omega)
  rw [num4_sub s 4 (by omega), en] at hn
  have HN := Lib.hid hn
  have hu := fun w => pnumber (s.extract (s.size - 4) s.size) w (by rw [size_sub _ _ _ (Nat.le_refl _)]; omega)
  rw [num4_sub s (s.size - 4) (by omega), eu] at hu
  have HU := Lib.hid hu
  have hS := fun (W : World) (h : IsTab W tb) => sum_any tb (s.extract 0 (s.size - 4)) W h (by rw [size_sub _ _ _ (by omega)]; omega)
  rw [em] at hS
  have HS1 := Lib.hid hS
  have hy := fun w => pmay s1 s2 s3 ⟨#[]⟩ w
  have k0 : ((s0 : Int) != 1) = false := by rw [h0]; rfl
  rw [hm] at hy
  have HY := Lib.hid hy
  clear hy hm
  have k4 : decide (1048576 < (n : Int)) = false := decide_eq_false (by omega)
  have k5 : decide ((s.size : Int) - 4 - 8 < (n : Int)) = true := decide_eq_true (by omega)
  have ty : tb ≠ w.heap.size := by
    have := isTab_lt hc.t
    omega
  have cy : c ≠ w.heap.size := by
    have := At.lt hc.a
    omega
  have ty6 : tb ≠ w.heap.size + 1 := by
    have := isTab_lt hc.t
    omega
  have cy6 : c ≠ w.heap.size + 1 := by
    have := At.lt hc.a
    omega
  have hsl : ∀ W : World, (Instr.slice 9 (.string s) none (some (.int .i64 ((s.size : Int) - 4))) none).run Try.prog W = .ok (.string (s.extract 0 (s.size - 4))) W := fun W => by
    rw [show (s.size : Int) - 4 = ((s.size - 4 : Nat) : Int) by omega]
    go_simp
  have hsr : ∀ W : World, (Instr.slice 9 (.string s) (some (.int .i64 ((s.size : Int) - 4))) none none).run Try.prog W = .ok (.string (s.extract (s.size - 4) s.size)) W := fun W => by
    rw [show (s.size : Int) - 4 = ((s.size - 4 : Nat) : Int) by omega]
    go_simp
  have hsb : ∀ W : World, (Instr.slice 9 (.string s) (some (.int .i64 8)) (some (.int .i64 ((s.size : Int) - 4))) none).run Try.prog W = .ok (.string B) W := fun W => by
    rw [show (s.size : Int) - 4 = ((s.size - 4 : Nat) : Int) by omega, ← eb]
    go_simp
    intro hh
    exfalso
    omega
  clear hc hn hu hS e0 e1 e2 e3 en em eu eb
  go_enter Try.func10, Try.ntmps10
  go_wp2_with (fail)
  go_region
  go_wp2_with (fail)
  have HO := Lib.hid (at_drew (at_alloc (o := .cells #[.int .u8 (s1 : Int), .int .u8 (s2 : Int), .int .u8 (s3 : Int), .string ⟨#[]⟩] 23) (at_new w #[.int .u8 0, .int .u8 0, .int .u8 0, .string ⟨#[]⟩] 23)))
  have HF := Lib.hid (at_drew (at_new (w.alloc (.cells #[.int .u8 0, .int .u8 0, .int .u8 0, .string ⟨#[]⟩] 23)) #[.int .u8 (s1 : Int), .int .u8 (s2 : Int), .int .u8 (s3 : Int), .string ⟨#[]⟩] 23))
  rw [World.size_alloc] at HF
  replace HC := Lib.hid (cod_dr (cod_al (o := .cells #[.int .u8 (s1 : Int), .int .u8 (s2 : Int), .int .u8 (s3 : Int), .string ⟨#[]⟩] 23) (cod_al (o := .cells #[.int .u8 0, .int .u8 0, .int .u8 0, .string ⟨#[]⟩] 23) HC.out)))
  have HG := Lib.hid (chg_drew (chg_alloc (o := .cells #[.int .u8 (s1 : Int), .int .u8 (s2 : Int), .int .u8 (s3 : Int), .string ⟨#[]⟩] 23) (chg_alloc (o := .cells #[.int .u8 0, .int .u8 0, .int .u8 0, .string ⟨#[]⟩] 23) (chg_refl (fun x => x = tb) w))))
  refine (HN.out _).mono ?_
  rintro e w1 ⟨rfl, b1⟩
  replace HO := Lib.hid (at_below HO.out b1)
  replace HF := Lib.hid (at_below HF.out b1)
  replace HC := Lib.hid (cod_below HC.out b1)
  replace HG := Lib.hid (chg_below HG.out b1)
  clear b1
  obtain ⟨x0, x1, x2, x3, f0, f1, f2, f3⟩ := at4 HO.out
  obtain ⟨y0, y1, y2, y3, g0, g1, g2, g3⟩ := at4 HF.out
  go_wp2_with (fail)
  clear x0 x1 x2 x3 f0 f1 f2 f3 y0 y1 y2 y3 g0 g1 g2 g3
  refine (HY.out _).mono ?_
  rintro e w2 ⟨rfl, b1⟩
  replace HO := Lib.hid (at_below HO.out b1)
  replace HF := Lib.hid (at_below HF.out b1)
  replace HC := Lib.hid (cod_below HC.out b1)
  replace HG := Lib.hid (chg_below HG.out b1)
  clear b1
  obtain ⟨x0, x1, x2, x3, f0, f1, f2, f3⟩ := at4 HO.out
  obtain ⟨y0, y1, y2, y3, g0, g1, g2, g3⟩ := at4 HF.out
  go_wp2_with (fail)
  clear x0 x1 x2 x3 f0 f1 f2 f3 y0 y1 y2 y3 g0 g1 g2 g3
  have HS := Lib.hid (at_set4 (v0 := .int .u8 0) (v1 := .int .u8 0) (v2 := .int .u8 0) (v3 := .string ⟨#[]⟩) HO.out)
  have HX : Chg (fun x => x = w.heap.size) w2 (((((w2.setCell ⟨w.heap.size, 0, none⟩ (.int .u8 0)).setCell ⟨w.heap.size, 1, none⟩ (.int .u8 0)).setCell ⟨w.heap.size, 2, none⟩ (.int .u8 0)).setCell ⟨w.heap.size, 3, none⟩ (.string ⟨#[]⟩))) := chg_set (chg_set (chg_set (chg_set (chg_refl _ _) rfl) rfl) rfl) rfl
  have HT2 := Lib.hid (is_chg HC.out.t HX ty)
  have HG2 : Hid (Chg (fun x => x = tb) w (((((w2.setCell ⟨w.heap.size, 0, none⟩ (.int .u8 0)).setCell ⟨w.heap.size, 1, none⟩ (.int .u8 0)).setCell ⟨w.heap.size, 2, none⟩ (.int .u8 0)).setCell ⟨w.heap.size, 3, none⟩ (.string ⟨#[]⟩)))) := Lib.hid (chg_set_new (chg_set_new (chg_set_new (chg_set_new HG.out (Nat.le_refl _)) (Nat.le_refl _)) (Nat.le_refl _)) (Nat.le_refl _))
  clear HX HO HG
  generalize ((((w2.setCell ⟨w.heap.size, 0, none⟩ (.int .u8 0)).setCell ⟨w.heap.size, 1, none⟩ (.int .u8 0)).setCell ⟨w.heap.size, 2, none⟩ (.int .u8 0)).setCell ⟨w.heap.size, 3, none⟩ (.string ⟨#[]⟩)) = wz at *
  obtain ⟨zz0, zz1, zz2, zz3, -⟩ := at4 HS.out
  refine bodyPost_ret (by simp [results, Try.results10, go_sem, zz0, zz1, zz2, zz3]; try rfl) rfl ?_
  exact ⟨rfl, HT2.out, HG2.out⟩
set_option maxRecDepth 100000 in
set_option maxHeartbeats 1600000 in
theorem dec_6 (c tb : Nat) (s : ByteArray) (w : World) (hc : Cod w c tb) (hs : s.size ≤ 999000) (s0 s1 s2 s3 n m u : Nat) (B : ByteArray) (h12 : 12 ≤ s.size) (e0 : by' s 0 = s0) (e1 : by' s 1 = s1) (e2 : by' s 2 = s2) (e3 : by' s 3 = s3) (en : num4 s 4 = n) (em : more 0 (s.extract 0 (s.size - 4)) = m) (eu : num4 s (s.size - 4) = u) (eb : s.extract 8 (s.size - 4) = B) (h0 : s0 = 1) (hm : mayF s1 s2 s3 = true) (h4 : ¬ 1048576 < n) (h5 : ¬ s.size < 12 + n) (h6 : 12 + n < s.size) :
    Calls Try.prog 10 #[.pointer (some ⟨c, 0, none⟩), .string s] w fun e w' => e = .returned (decV (0, 0, 0, ⟨#[]⟩, 3)) ∧ IsTab w' tb ∧ Chg (fun x => x = tb) w w' := by
  have c1 : decide ((s.size : Int) < 12) = false := decide_eq_false (by omega)
  have HC := Lib.hid hc
  have l0 : 0 < s.size := by omega
  have l1 : 1 < s.size := by omega
  have l2 : 2 < s.size := by omega
  have l3 : 3 < s.size := by omega
  have a0 := by_at s 0 l0
  have a1 := by_at s 1 l1
  have a2 := by_at s 2 l2
  have a3 := by_at s 3 l3
  rw [e0] at a0
  rw [e1] at a1
  rw [e2] at a2
  rw [e3] at a3
  have hn := fun w => pnumber (s.extract 4 s.size) w (by rw [size_sub _ _ _ (Nat.le_refl _)]; omega)
  rw [num4_sub s 4 (by omega), en] at hn
  have HN := Lib.hid hn
  have hu := fun w => pnumber (s.extract (s.size - 4) s.size) w (by rw [size_sub _ _ _ (Nat.le_refl _)]; omega)
  rw [num4_sub s (s.size - 4) (by omega), eu] at hu
  have HU := Lib.hid hu
  have hS := fun (W : World) (h : IsTab W tb) => sum_any tb (s.extract 0 (s.size - 4)) W h (by rw [size_sub _ _ _ (by omega)]; omega)
  rw [em] at hS
  have HS1 := Lib.hid hS
  have hy := fun w => pmay s1 s2 s3 ⟨#[]⟩ w
  have k0 : ((s0 : Int) != 1) = false := by rw [h0]; rfl
  rw [hm] at hy
  have HY := Lib.hid hy
  clear hy hm
  have k4 : decide (1048576 < (n : Int)) = false := decide_eq_false (by omega)
  have k5 : decide ((s.size : Int) - 4 - 8 < (n : Int)) = false := decide_eq_false (by omega)
  have k6 : decide ((n : Int) < (s.size : Int) - 4 - 8) = true := decide_eq_true (by omega)
  have ty : tb ≠ w.heap.size := by
    have := isTab_lt hc.t
    omega
  have cy : c ≠ w.heap.size := by
    have := At.lt hc.a
    omega
  have ty6 : tb ≠ w.heap.size + 1 := by
    have := isTab_lt hc.t
    omega
  have cy6 : c ≠ w.heap.size + 1 := by
    have := At.lt hc.a
    omega
  have hsl : ∀ W : World, (Instr.slice 9 (.string s) none (some (.int .i64 ((s.size : Int) - 4))) none).run Try.prog W = .ok (.string (s.extract 0 (s.size - 4))) W := fun W => by
    rw [show (s.size : Int) - 4 = ((s.size - 4 : Nat) : Int) by omega]
    go_simp
  have hsr : ∀ W : World, (Instr.slice 9 (.string s) (some (.int .i64 ((s.size : Int) - 4))) none none).run Try.prog W = .ok (.string (s.extract (s.size - 4) s.size)) W := fun W => by
    rw [show (s.size : Int) - 4 = ((s.size - 4 : Nat) : Int) by omega]
    go_simp
  have hsb : ∀ W : World, (Instr.slice 9 (.string s) (some (.int .i64 8)) (some (.int .i64 ((s.size : Int) - 4))) none).run Try.prog W = .ok (.string B) W := fun W => by
    rw [show (s.size : Int) - 4 = ((s.size - 4 : Nat) : Int) by omega, ← eb]
    go_simp
    intro hh
    exfalso
    omega
  clear hc hn hu hS e0 e1 e2 e3 en em eu eb
  go_enter Try.func10, Try.ntmps10
  go_wp2_with (fail)
  go_region
  go_wp2_with (fail)
  have HO := Lib.hid (at_drew (at_alloc (o := .cells #[.int .u8 (s1 : Int), .int .u8 (s2 : Int), .int .u8 (s3 : Int), .string ⟨#[]⟩] 23) (at_new w #[.int .u8 0, .int .u8 0, .int .u8 0, .string ⟨#[]⟩] 23)))
  have HF := Lib.hid (at_drew (at_new (w.alloc (.cells #[.int .u8 0, .int .u8 0, .int .u8 0, .string ⟨#[]⟩] 23)) #[.int .u8 (s1 : Int), .int .u8 (s2 : Int), .int .u8 (s3 : Int), .string ⟨#[]⟩] 23))
  rw [World.size_alloc] at HF
  replace HC := Lib.hid (cod_dr (cod_al (o := .cells #[.int .u8 (s1 : Int), .int .u8 (s2 : Int), .int .u8 (s3 : Int), .string ⟨#[]⟩] 23) (cod_al (o := .cells #[.int .u8 0, .int .u8 0, .int .u8 0, .string ⟨#[]⟩] 23) HC.out)))
  have HG := Lib.hid (chg_drew (chg_alloc (o := .cells #[.int .u8 (s1 : Int), .int .u8 (s2 : Int), .int .u8 (s3 : Int), .string ⟨#[]⟩] 23) (chg_alloc (o := .cells #[.int .u8 0, .int .u8 0, .int .u8 0, .string ⟨#[]⟩] 23) (chg_refl (fun x => x = tb) w))))
  refine (HN.out _).mono ?_
  rintro e w1 ⟨rfl, b1⟩
  replace HO := Lib.hid (at_below HO.out b1)
  replace HF := Lib.hid (at_below HF.out b1)
  replace HC := Lib.hid (cod_below HC.out b1)
  replace HG := Lib.hid (chg_below HG.out b1)
  clear b1
  obtain ⟨x0, x1, x2, x3, f0, f1, f2, f3⟩ := at4 HO.out
  obtain ⟨y0, y1, y2, y3, g0, g1, g2, g3⟩ := at4 HF.out
  go_wp2_with (fail)
  clear x0 x1 x2 x3 f0 f1 f2 f3 y0 y1 y2 y3 g0 g1 g2 g3
  refine (HY.out _).mono ?_
  rintro e w2 ⟨rfl, b1⟩
  replace HO := Lib.hid (at_below HO.out b1)
  replace HF := Lib.hid (at_below HF.out b1)
  replace HC := Lib.hid (cod_below HC.out b1)
  replace HG := Lib.hid (chg_below HG.out b1)
  clear b1
  obtain ⟨x0, x1, x2, x3, f0, f1, f2, f3⟩ := at4 HO.out
  obtain ⟨y0, y1, y2, y3, g0, g1, g2, g3⟩ := at4 HF.out
  go_wp2_with (fail)
  clear x0 x1 x2 x3 f0 f1 f2 f3 y0 y1 y2 y3 g0 g1 g2 g3
  have HS := Lib.hid (at_set4 (v0 := .int .u8 0) (v1 := .int .u8 0) (v2 := .int .u8 0) (v3 := .string ⟨#[]⟩) HO.out)
  have HX : Chg (fun x => x = w.heap.size) w2 (((((w2.setCell ⟨w.heap.size, 0, none⟩ (.int .u8 0)).setCell ⟨w.heap.size, 1, none⟩ (.int .u8 0)).setCell ⟨w.heap.size, 2, none⟩ (.int .u8 0)).setCell ⟨w.heap.size, 3, none⟩ (.string ⟨#[]⟩))) := chg_set (chg_set (chg_set (chg_set (chg_refl _ _) rfl) rfl) rfl) rfl
  have HT2 := Lib.hid (is_chg HC.out.t HX ty)
  have HG2 : Hid (Chg (fun x => x = tb) w (((((w2.setCell ⟨w.heap.size, 0, none⟩ (.int .u8 0)).setCell ⟨w.heap.size, 1, none⟩ (.int .u8 0)).setCell ⟨w.heap.size, 2, none⟩ (.int .u8 0)).setCell ⟨w.heap.size, 3, none⟩ (.string ⟨#[]⟩)))) := Lib.hid (chg_set_new (chg_set_new (chg_set_new (chg_set_new HG.out (Nat.le_refl _)) (Nat.le_refl _)) (Nat.le_refl _)) (Nat.le_refl _))
  clear HX HO HG
  generalize ((((w2.setCell ⟨w.heap.size, 0, none⟩ (.int .u8 0)).setCell ⟨w.heap.size, 1, none⟩ (.int .u8 0)).setCell ⟨w.heap.size, 2, none⟩ (.int .u8 0)).setCell ⟨w.heap.size, 3, none⟩ (.string ⟨#[]⟩)) = wz at *
  obtain ⟨zz0, zz1, zz2, zz3, -⟩ := at4 HS.out
  refine bodyPost_ret (by simp [results, Try.results10, go_sem, zz0, zz1, zz2, zz3]; try rfl) rfl ?_
  exact ⟨rfl, HT2.out, HG2.out⟩
set_option maxRecDepth 100000 in
set_option maxHeartbeats 1600000 in
theorem dec_7 (c tb : Nat) (s : ByteArray) (w : World) (hc : Cod w c tb) (hs : s.size ≤ 999000) (s0 s1 s2 s3 n m u : Nat) (B : ByteArray) (h12 : 12 ≤ s.size) (e0 : by' s 0 = s0) (e1 : by' s 1 = s1) (e2 : by' s 2 = s2) (e3 : by' s 3 = s3) (en : num4 s 4 = n) (em : more 0 (s.extract 0 (s.size - 4)) = m) (eu : num4 s (s.size - 4) = u) (eb : s.extract 8 (s.size - 4) = B) (h0 : s0 = 1) (hm : mayF s1 s2 s3 = true) (h4 : ¬ 1048576 < n) (h5 : ¬ s.size < 12 + n) (h6 : ¬ 12 + n < s.size) (h7 : ¬ m = u) :
    Calls Try.prog 10 #[.pointer (some ⟨c, 0, none⟩), .string s] w fun e w' => e = .returned (decV (0, 0, 0, ⟨#[]⟩, 5)) ∧ IsTab w' tb ∧ Chg (fun x => x = tb) w w' := by
  have c1 : decide ((s.size : Int) < 12) = false := decide_eq_false (by omega)
  have HC := Lib.hid hc
  have l0 : 0 < s.size := by omega
  have l1 : 1 < s.size := by omega
  have l2 : 2 < s.size := by omega
  have l3 : 3 < s.size := by omega
  have a0 := by_at s 0 l0
  have a1 := by_at s 1 l1
  have a2 := by_at s 2 l2
  have a3 := by_at s 3 l3
  rw [e0] at a0
  rw [e1] at a1
  rw [e2] at a2
  rw [e3] at a3
  have hn := fun w => pnumber (s.extract 4 s.size) w (by rw [size_sub _ _ _ (Nat.le_refl _)]; omega)
  rw [num4_sub s 4 (by omega), en] at hn
  have HN := Lib.hid hn
  have hu := fun w => pnumber (s.extract (s.size - 4) s.size) w (by rw [size_sub _ _ _ (Nat.le_refl _)]; omega)
  rw [num4_sub s (s.size - 4) (by omega), eu] at hu
  have HU := Lib.hid hu
  have hS := fun (W : World) (h : IsTab W tb) => sum_any tb (s.extract 0 (s.size - 4)) W h (by rw [size_sub _ _ _ (by omega)]; omega)
  rw [em] at hS
  have HS1 := Lib.hid hS
  have hy := fun w => pmay s1 s2 s3 ⟨#[]⟩ w
  have k0 : ((s0 : Int) != 1) = false := by rw [h0]; rfl
  rw [hm] at hy
  have HY := Lib.hid hy
  clear hy hm
  have k4 : decide (1048576 < (n : Int)) = false := decide_eq_false (by omega)
  have k5 : decide ((s.size : Int) - 4 - 8 < (n : Int)) = false := decide_eq_false (by omega)
  have k6 : decide ((n : Int) < (s.size : Int) - 4 - 8) = false := decide_eq_false (by omega)
  have k7 : ((m : Int) != (u : Int)) = true := bne_iff_ne.2 (by omega)
  have ty : tb ≠ w.heap.size := by
    have := isTab_lt hc.t
    omega
  have cy : c ≠ w.heap.size := by
    have := At.lt hc.a
    omega
  have ty6 : tb ≠ w.heap.size + 1 := by
    have := isTab_lt hc.t
    omega
  have cy6 : c ≠ w.heap.size + 1 := by
    have := At.lt hc.a
    omega
  have hsl : ∀ W : World, (Instr.slice 9 (.string s) none (some (.int .i64 ((s.size : Int) - 4))) none).run Try.prog W = .ok (.string (s.extract 0 (s.size - 4))) W := fun W => by
    rw [show (s.size : Int) - 4 = ((s.size - 4 : Nat) : Int) by omega]
    go_simp
  have hsr : ∀ W : World, (Instr.slice 9 (.string s) (some (.int .i64 ((s.size : Int) - 4))) none none).run Try.prog W = .ok (.string (s.extract (s.size - 4) s.size)) W := fun W => by
    rw [show (s.size : Int) - 4 = ((s.size - 4 : Nat) : Int) by omega]
    go_simp
  have hsb : ∀ W : World, (Instr.slice 9 (.string s) (some (.int .i64 8)) (some (.int .i64 ((s.size : Int) - 4))) none).run Try.prog W = .ok (.string B) W := fun W => by
    rw [show (s.size : Int) - 4 = ((s.size - 4 : Nat) : Int) by omega, ← eb]
    go_simp
    intro hh
    exfalso
    omega
  clear hc hn hu hS e0 e1 e2 e3 en em eu eb
  go_enter Try.func10, Try.ntmps10
  go_wp2_with (fail)
  go_region
  go_wp2_with (fail)
  have HO := Lib.hid (at_drew (at_alloc (o := .cells #[.int .u8 (s1 : Int), .int .u8 (s2 : Int), .int .u8 (s3 : Int), .string ⟨#[]⟩] 23) (at_new w #[.int .u8 0, .int .u8 0, .int .u8 0, .string ⟨#[]⟩] 23)))
  have HF := Lib.hid (at_drew (at_new (w.alloc (.cells #[.int .u8 0, .int .u8 0, .int .u8 0, .string ⟨#[]⟩] 23)) #[.int .u8 (s1 : Int), .int .u8 (s2 : Int), .int .u8 (s3 : Int), .string ⟨#[]⟩] 23))
  rw [World.size_alloc] at HF
  replace HC := Lib.hid (cod_dr (cod_al (o := .cells #[.int .u8 (s1 : Int), .int .u8 (s2 : Int), .int .u8 (s3 : Int), .string ⟨#[]⟩] 23) (cod_al (o := .cells #[.int .u8 0, .int .u8 0, .int .u8 0, .string ⟨#[]⟩] 23) HC.out)))
  have HG := Lib.hid (chg_drew (chg_alloc (o := .cells #[.int .u8 (s1 : Int), .int .u8 (s2 : Int), .int .u8 (s3 : Int), .string ⟨#[]⟩] 23) (chg_alloc (o := .cells #[.int .u8 0, .int .u8 0, .int .u8 0, .string ⟨#[]⟩] 23) (chg_refl (fun x => x = tb) w))))
  refine (HN.out _).mono ?_
  rintro e w1 ⟨rfl, b1⟩
  replace HO := Lib.hid (at_below HO.out b1)
  replace HF := Lib.hid (at_below HF.out b1)
  replace HC := Lib.hid (cod_below HC.out b1)
  replace HG := Lib.hid (chg_below HG.out b1)
  clear b1
  obtain ⟨x0, x1, x2, x3, f0, f1, f2, f3⟩ := at4 HO.out
  obtain ⟨y0, y1, y2, y3, g0, g1, g2, g3⟩ := at4 HF.out
  go_wp2_with (fail)
  clear x0 x1 x2 x3 f0 f1 f2 f3 y0 y1 y2 y3 g0 g1 g2 g3
  refine (HY.out _).mono ?_
  rintro e w2 ⟨rfl, b1⟩
  replace HO := Lib.hid (at_below HO.out b1)
  replace HF := Lib.hid (at_below HF.out b1)
  replace HC := Lib.hid (cod_below HC.out b1)
  replace HG := Lib.hid (chg_below HG.out b1)
  clear b1
  obtain ⟨x0, x1, x2, x3, f0, f1, f2, f3⟩ := at4 HO.out
  obtain ⟨y0, y1, y2, y3, g0, g1, g2, g3⟩ := at4 HF.out
  go_wp2_with (fail)
  clear x0 x1 x2 x3 f0 f1 f2 f3 y0 y1 y2 y3 g0 g1 g2 g3
  replace HO := Lib.hid (at_drew HO.out)
  replace HF := Lib.hid (at_drew HF.out)
  replace HC := Lib.hid (cod_dr HC.out)
  replace HG := Lib.hid (chg_drew HG.out)
  refine wp_region_held_drew (S := (fun W => W.cell? ⟨c, 0, none⟩ = some (.pointer (some ⟨tb, 0, none⟩)))) (by kernel_rfl) ?_ (fun hHeld => ?_)
  · (try dsimp only)
    exact (at1 HC.out.a).1
  refine Draw.take_w (i := 0) (v := ?vv1) rfl (by kernel_rfl) (by kernel_rfl) (by kernel_rfl) (fun _ _ _ h => h) (by rfl) ?hy1 (by assumption) ?rest1
  case hy1 => ((intro w hSw); (try dsimp only at hSw); go_simp; (try with_reducible rfl))
  (try simp only [Act.put, List.setIfInBounds_toArray, List.set_cons_zero, List.set_cons_succ])
  refine Draw.take_w (i := 1) (v := ?vv2) rfl (by kernel_rfl) (by kernel_rfl) (by kernel_rfl) (fun _ _ _ h => h) (by rfl) ?hy2 (by assumption) ?rest2
  case hy2 => ((intro w hSw); (try dsimp only at hSw); go_simp; (try with_reducible rfl))
  (try simp only [Act.put, List.setIfInBounds_toArray, List.set_cons_zero, List.set_cons_succ])
  refine Draw.take_w (i := 2) (v := ?vv3) rfl (by kernel_rfl) (by kernel_rfl) (by kernel_rfl) (fun _ _ _ h => h) (by rfl) ?hy3 (by assumption) ?rest3
  case hy3 => ((intro w hSw); (try dsimp only at hSw); go_simp; (try with_reducible rfl))
  (try simp only [Act.put, List.setIfInBounds_toArray, List.set_cons_zero, List.set_cons_succ])
  refine Draw.take_w (i := 3) (v := ?vv4) rfl (by kernel_rfl) (by kernel_rfl) (by kernel_rfl) (fun _ _ _ h => h) (by rfl) ?hy4 (by assumption) ?rest4
  case hy4 => ((intro w hSw); (try dsimp only at hSw); go_simp; (try with_reducible rfl))
  (try simp only [Act.put, List.setIfInBounds_toArray, List.set_cons_zero, List.set_cons_succ])
  refine Draw.take_w (i := 4) (v := ?vv5) rfl (by kernel_rfl) (by kernel_rfl) (by kernel_rfl) (fun _ _ _ h => h) (by rfl) ?hy5 (by assumption) ?rest5
  case hy5 => ((intro w hSw); (try dsimp only at hSw); go_simp; (try with_reducible rfl))
  (try simp only [Act.put, List.setIfInBounds_toArray, List.set_cons_zero, List.set_cons_succ])
  refine Draw.take_w (i := 5) (v := ?vv6) rfl (by kernel_rfl) (by kernel_rfl) (by kernel_rfl) (fun _ _ _ h => h) (by rfl) ?hy6 (by assumption) ?rest6
  case hy6 => ((intro w hSw); (try dsimp only at hSw); go_simp; (try with_reducible rfl))
  (try simp only [Act.put, List.setIfInBounds_toArray, List.set_cons_zero, List.set_cons_succ])
  refine Draw.take_w (i := 6) (v := ?vv7) rfl (by kernel_rfl) (by kernel_rfl) (by kernel_rfl) (fun _ _ _ h => h) (by rfl) ?hy7 (by assumption) ?rest7
  case hy7 => ((intro w hSw); (try dsimp only at hSw); go_simp; (try with_reducible rfl))
  (try simp only [Act.put, List.setIfInBounds_toArray, List.set_cons_zero, List.set_cons_succ])
  refine Draw.take_w (i := 8) (v := ?vv8) rfl (by kernel_rfl) (by kernel_rfl) (by kernel_rfl) (fun _ _ _ h => h) (by rfl) ?hy8 (by assumption) ?rest8
  case hy8 => ((intro w hSw); (try dsimp only at hSw); go_simp; (try with_reducible rfl))
  (try simp only [Act.put, List.setIfInBounds_toArray, List.set_cons_zero, List.set_cons_succ])
  refine Draw.take_w (i := 9) (v := ?vv9) rfl (by kernel_rfl) (by kernel_rfl) (by kernel_rfl) (fun _ _ _ h => h) (by rfl) ?hy9 (by assumption) ?rest9
  case hy9 => ((intro w hSw); (try dsimp only at hSw); go_simp; (try with_reducible rfl))
  (try simp only [Act.put, List.setIfInBounds_toArray, List.set_cons_zero, List.set_cons_succ])
  refine Draw.take_w (i := 10) (v := ?vv10) rfl (by kernel_rfl) (by kernel_rfl) (by kernel_rfl) (fun _ _ _ h => h) (by rfl) ?hy10 (by assumption) ?rest10
  case hy10 => ((intro w hSw); (try dsimp only at hSw); go_simp; (try with_reducible rfl))
  (try simp only [Act.put, List.setIfInBounds_toArray, List.set_cons_zero, List.set_cons_succ])
  refine Draw.call_d (i := 7) rfl (by kernel_rfl) (by rfl) (fun K hK => ?_)
  go_simp
  refine (HS1.out _ HC.out.t).mono ?_
  rintro e w3 ⟨rfl, t2, k2⟩
  replace HO := Lib.hid (at_chg HO.out k2 (fun h => ty h.symm))
  replace HF := Lib.hid (at_chg HF.out k2 (fun h => ty6 h.symm))
  replace HC := Lib.hid (cod_chg HC.out (Or.inr t2) k2)
  replace HG := Lib.hid (chg_then HG.out k2)
  clear t2 k2
  refine hK.out _ _ ?_ (fun hHeld => ?_)
  · (try dsimp only)
    exact (at1 HC.out.a).1
  clear hK K
  (try simp only [Act.put, List.setIfInBounds_toArray, List.set_cons_zero, List.set_cons_succ])
  refine Draw.call_d (i := 11) rfl (by kernel_rfl) (by rfl) (fun K hK => ?_)
  go_simp
  refine (HU.out _).mono ?_
  rintro e w4 ⟨rfl, b1⟩
  replace HO := Lib.hid (at_below HO.out b1)
  replace HF := Lib.hid (at_below HF.out b1)
  replace HC := Lib.hid (cod_below HC.out b1)
  replace HG := Lib.hid (chg_below HG.out b1)
  clear b1
  refine hK.out _ _ ?_ (fun hHeld => ?_)
  · (try dsimp only)
    exact (at1 HC.out.a).1
  clear hK K
  (try simp only [Act.put, List.setIfInBounds_toArray, List.set_cons_zero, List.set_cons_succ])
  refine Draw.take_w (i := 12) (v := ?vv11) rfl (by kernel_rfl) (by kernel_rfl) (by kernel_rfl) (fun _ _ _ h => h) (by rfl) ?hy11 (by assumption) ?rest11
  case hy11 => ((intro w hSw); (try dsimp only at hSw); go_simp; (try with_reducible rfl))
  (try simp only [Act.put, List.setIfInBounds_toArray, List.set_cons_zero, List.set_cons_succ])
  refine Draw.take_w (i := 13) (v := ?vv12) rfl (by kernel_rfl) (by kernel_rfl) (by kernel_rfl) (fun _ _ _ h => h) (by rfl) ?hy12 (by assumption) ?rest12
  case hy12 => ((intro w hSw); (try dsimp only at hSw); go_simp; (try with_reducible rfl))
  (try simp only [Act.put, List.setIfInBounds_toArray, List.set_cons_zero, List.set_cons_succ])
  refine wpAnyH_done (by kernel_rfl) ?_ _
  obtain ⟨x0, x1, x2, x3, f0, f1, f2, f3⟩ := at4 HO.out
  obtain ⟨y0, y1, y2, y3, g0, g1, g2, g3⟩ := at4 HF.out
  go_wp2_with (fail)
  clear x0 x1 x2 x3 f0 f1 f2 f3 y0 y1 y2 y3 g0 g1 g2 g3
  have HS := Lib.hid (at_set4 (v0 := .int .u8 0) (v1 := .int .u8 0) (v2 := .int .u8 0) (v3 := .string ⟨#[]⟩) HO.out)
  have HX : Chg (fun x => x = w.heap.size) w4 (((((w4.setCell ⟨w.heap.size, 0, none⟩ (.int .u8 0)).setCell ⟨w.heap.size, 1, none⟩ (.int .u8 0)).setCell ⟨w.heap.size, 2, none⟩ (.int .u8 0)).setCell ⟨w.heap.size, 3, none⟩ (.string ⟨#[]⟩))) := chg_set (chg_set (chg_set (chg_set (chg_refl _ _) rfl) rfl) rfl) rfl
  have HT2 := Lib.hid (is_chg HC.out.t HX ty)
  have HG2 : Hid (Chg (fun x => x = tb) w (((((w4.setCell ⟨w.heap.size, 0, none⟩ (.int .u8 0)).setCell ⟨w.heap.size, 1, none⟩ (.int .u8 0)).setCell ⟨w.heap.size, 2, none⟩ (.int .u8 0)).setCell ⟨w.heap.size, 3, none⟩ (.string ⟨#[]⟩)))) := Lib.hid (chg_set_new (chg_set_new (chg_set_new (chg_set_new HG.out (Nat.le_refl _)) (Nat.le_refl _)) (Nat.le_refl _)) (Nat.le_refl _))
  clear HX HO HG
  generalize ((((w4.setCell ⟨w.heap.size, 0, none⟩ (.int .u8 0)).setCell ⟨w.heap.size, 1, none⟩ (.int .u8 0)).setCell ⟨w.heap.size, 2, none⟩ (.int .u8 0)).setCell ⟨w.heap.size, 3, none⟩ (.string ⟨#[]⟩)) = wz at *
  obtain ⟨zz0, zz1, zz2, zz3, -⟩ := at4 HS.out
  refine bodyPost_ret (by simp [results, Try.results10, go_sem, zz0, zz1, zz2, zz3]; try rfl) rfl ?_
  exact ⟨rfl, HT2.out, HG2.out⟩
set_option maxRecDepth 100000 in
set_option maxHeartbeats 1600000 in
theorem dec_8 (c tb : Nat) (s : ByteArray) (w : World) (hc : Cod w c tb) (hs : s.size ≤ 999000) (s0 s1 s2 s3 n m u : Nat) (B : ByteArray) (h12 : 12 ≤ s.size) (e0 : by' s 0 = s0) (e1 : by' s 1 = s1) (e2 : by' s 2 = s2) (e3 : by' s 3 = s3) (en : num4 s 4 = n) (em : more 0 (s.extract 0 (s.size - 4)) = m) (eu : num4 s (s.size - 4) = u) (eb : s.extract 8 (s.size - 4) = B) (h0 : s0 = 1) (hm : mayF s1 s2 s3 = true) (h4 : ¬ 1048576 < n) (h5 : ¬ s.size < 12 + n) (h6 : ¬ 12 + n < s.size) (h7 : m = u) :
    Calls Try.prog 10 #[.pointer (some ⟨c, 0, none⟩), .string s] w fun e w' => e = .returned (decV (s1, s2, s3, B, 0)) ∧ IsTab w' tb ∧ Chg (fun x => x = tb) w w' := by
  have c1 : decide ((s.size : Int) < 12) = false := decide_eq_false (by omega)
  have HC := Lib.hid hc
  have l0 : 0 < s.size := by omega
  have l1 : 1 < s.size := by omega
  have l2 : 2 < s.size := by omega
  have l3 : 3 < s.size := by omega
  have a0 := by_at s 0 l0
  have a1 := by_at s 1 l1
  have a2 := by_at s 2 l2
  have a3 := by_at s 3 l3
  rw [e0] at a0
  rw [e1] at a1
  rw [e2] at a2
  rw [e3] at a3
  have hn := fun w => pnumber (s.extract 4 s.size) w (by rw [size_sub _ _ _ (Nat.le_refl _)]; omega)
  rw [num4_sub s 4 (by omega), en] at hn
  have HN := Lib.hid hn
  have hu := fun w => pnumber (s.extract (s.size - 4) s.size) w (by rw [size_sub _ _ _ (Nat.le_refl _)]; omega)
  rw [num4_sub s (s.size - 4) (by omega), eu] at hu
  have HU := Lib.hid hu
  have hS := fun (W : World) (h : IsTab W tb) => sum_any tb (s.extract 0 (s.size - 4)) W h (by rw [size_sub _ _ _ (by omega)]; omega)
  rw [em] at hS
  have HS1 := Lib.hid hS
  have hy := fun w => pmay s1 s2 s3 ⟨#[]⟩ w
  have k0 : ((s0 : Int) != 1) = false := by rw [h0]; rfl
  rw [hm] at hy
  have HY := Lib.hid hy
  clear hy hm
  have k4 : decide (1048576 < (n : Int)) = false := decide_eq_false (by omega)
  have k5 : decide ((s.size : Int) - 4 - 8 < (n : Int)) = false := decide_eq_false (by omega)
  have k6 : decide ((n : Int) < (s.size : Int) - 4 - 8) = false := decide_eq_false (by omega)
  have k7 : ((m : Int) != (u : Int)) = false := by rw [h7]; simp
  have ty : tb ≠ w.heap.size := by
    have := isTab_lt hc.t
    omega
  have cy : c ≠ w.heap.size := by
    have := At.lt hc.a
    omega
  have ty6 : tb ≠ w.heap.size + 1 := by
    have := isTab_lt hc.t
    omega
  have cy6 : c ≠ w.heap.size + 1 := by
    have := At.lt hc.a
    omega
  have hsl : ∀ W : World, (Instr.slice 9 (.string s) none (some (.int .i64 ((s.size : Int) - 4))) none).run Try.prog W = .ok (.string (s.extract 0 (s.size - 4))) W := fun W => by
    rw [show (s.size : Int) - 4 = ((s.size - 4 : Nat) : Int) by omega]
    go_simp
  have hsr : ∀ W : World, (Instr.slice 9 (.string s) (some (.int .i64 ((s.size : Int) - 4))) none none).run Try.prog W = .ok (.string (s.extract (s.size - 4) s.size)) W := fun W => by
    rw [show (s.size : Int) - 4 = ((s.size - 4 : Nat) : Int) by omega]
    go_simp
  have hsb : ∀ W : World, (Instr.slice 9 (.string s) (some (.int .i64 8)) (some (.int .i64 ((s.size : Int) - 4))) none).run Try.prog W = .ok (.string B) W := fun W => by
    rw [show (s.size : Int) - 4 = ((s.size - 4 : Nat) : Int) by omega, ← eb]
    go_simp
    intro hh
    exfalso
    omega
  clear hc hn hu hS e0 e1 e2 e3 en em eu eb
  go_enter Try.func10, Try.ntmps10
  go_wp2_with (fail)
  go_region
  go_wp2_with (fail)
  have HO := Lib.hid (at_drew (at_alloc (o := .cells #[.int .u8 (s1 : Int), .int .u8 (s2 : Int), .int .u8 (s3 : Int), .string ⟨#[]⟩] 23) (at_new w #[.int .u8 0, .int .u8 0, .int .u8 0, .string ⟨#[]⟩] 23)))
  have HF := Lib.hid (at_drew (at_new (w.alloc (.cells #[.int .u8 0, .int .u8 0, .int .u8 0, .string ⟨#[]⟩] 23)) #[.int .u8 (s1 : Int), .int .u8 (s2 : Int), .int .u8 (s3 : Int), .string ⟨#[]⟩] 23))
  rw [World.size_alloc] at HF
  replace HC := Lib.hid (cod_dr (cod_al (o := .cells #[.int .u8 (s1 : Int), .int .u8 (s2 : Int), .int .u8 (s3 : Int), .string ⟨#[]⟩] 23) (cod_al (o := .cells #[.int .u8 0, .int .u8 0, .int .u8 0, .string ⟨#[]⟩] 23) HC.out)))
  have HG := Lib.hid (chg_drew (chg_alloc (o := .cells #[.int .u8 (s1 : Int), .int .u8 (s2 : Int), .int .u8 (s3 : Int), .string ⟨#[]⟩] 23) (chg_alloc (o := .cells #[.int .u8 0, .int .u8 0, .int .u8 0, .string ⟨#[]⟩] 23) (chg_refl (fun x => x = tb) w))))
  refine (HN.out _).mono ?_
  rintro e w1 ⟨rfl, b1⟩
  replace HO := Lib.hid (at_below HO.out b1)
  replace HF := Lib.hid (at_below HF.out b1)
  replace HC := Lib.hid (cod_below HC.out b1)
  replace HG := Lib.hid (chg_below HG.out b1)
  clear b1
  obtain ⟨x0, x1, x2, x3, f0, f1, f2, f3⟩ := at4 HO.out
  obtain ⟨y0, y1, y2, y3, g0, g1, g2, g3⟩ := at4 HF.out
  go_wp2_with (fail)
  clear x0 x1 x2 x3 f0 f1 f2 f3 y0 y1 y2 y3 g0 g1 g2 g3
  refine (HY.out _).mono ?_
  rintro e w2 ⟨rfl, b1⟩
  replace HO := Lib.hid (at_below HO.out b1)
  replace HF := Lib.hid (at_below HF.out b1)
  replace HC := Lib.hid (cod_below HC.out b1)
  replace HG := Lib.hid (chg_below HG.out b1)
  clear b1
  obtain ⟨x0, x1, x2, x3, f0, f1, f2, f3⟩ := at4 HO.out
  obtain ⟨y0, y1, y2, y3, g0, g1, g2, g3⟩ := at4 HF.out
  go_wp2_with (fail)
  clear x0 x1 x2 x3 f0 f1 f2 f3 y0 y1 y2 y3 g0 g1 g2 g3
  replace HO := Lib.hid (at_drew HO.out)
  replace HF := Lib.hid (at_drew HF.out)
  replace HC := Lib.hid (cod_dr HC.out)
  replace HG := Lib.hid (chg_drew HG.out)
  refine wp_region_held_drew (S := (fun W => W.cell? ⟨c, 0, none⟩ = some (.pointer (some ⟨tb, 0, none⟩)))) (by kernel_rfl) ?_ (fun hHeld => ?_)
  · (try dsimp only)
    exact (at1 HC.out.a).1
  refine Draw.take_w (i := 0) (v := ?vv13) rfl (by kernel_rfl) (by kernel_rfl) (by kernel_rfl) (fun _ _ _ h => h) (by rfl) ?hy13 (by assumption) ?rest13
  case hy13 => ((intro w hSw); (try dsimp only at hSw); go_simp; (try with_reducible rfl))
  (try simp only [Act.put, List.setIfInBounds_toArray, List.set_cons_zero, List.set_cons_succ])
  refine Draw.take_w (i := 1) (v := ?vv14) rfl (by kernel_rfl) (by kernel_rfl) (by kernel_rfl) (fun _ _ _ h => h) (by rfl) ?hy14 (by assumption) ?rest14
  case hy14 => ((intro w hSw); (try dsimp only at hSw); go_simp; (try with_reducible rfl))
  (try simp only [Act.put, List.setIfInBounds_toArray, List.set_cons_zero, List.set_cons_succ])
  refine Draw.take_w (i := 2) (v := ?vv15) rfl (by kernel_rfl) (by kernel_rfl) (by kernel_rfl) (fun _ _ _ h => h) (by rfl) ?hy15 (by assumption) ?rest15
  case hy15 => ((intro w hSw); (try dsimp only at hSw); go_simp; (try with_reducible rfl))
  (try simp only [Act.put, List.setIfInBounds_toArray, List.set_cons_zero, List.set_cons_succ])
  refine Draw.take_w (i := 3) (v := ?vv16) rfl (by kernel_rfl) (by kernel_rfl) (by kernel_rfl) (fun _ _ _ h => h) (by rfl) ?hy16 (by assumption) ?rest16
  case hy16 => ((intro w hSw); (try dsimp only at hSw); go_simp; (try with_reducible rfl))
  (try simp only [Act.put, List.setIfInBounds_toArray, List.set_cons_zero, List.set_cons_succ])
  refine Draw.take_w (i := 4) (v := ?vv17) rfl (by kernel_rfl) (by kernel_rfl) (by kernel_rfl) (fun _ _ _ h => h) (by rfl) ?hy17 (by assumption) ?rest17
  case hy17 => ((intro w hSw); (try dsimp only at hSw); go_simp; (try with_reducible rfl))
  (try simp only [Act.put, List.setIfInBounds_toArray, List.set_cons_zero, List.set_cons_succ])
  refine Draw.take_w (i := 5) (v := ?vv18) rfl (by kernel_rfl) (by kernel_rfl) (by kernel_rfl) (fun _ _ _ h => h) (by rfl) ?hy18 (by assumption) ?rest18
  case hy18 => ((intro w hSw); (try dsimp only at hSw); go_simp; (try with_reducible rfl))
  (try simp only [Act.put, List.setIfInBounds_toArray, List.set_cons_zero, List.set_cons_succ])
  refine Draw.take_w (i := 6) (v := ?vv19) rfl (by kernel_rfl) (by kernel_rfl) (by kernel_rfl) (fun _ _ _ h => h) (by rfl) ?hy19 (by assumption) ?rest19
  case hy19 => ((intro w hSw); (try dsimp only at hSw); go_simp; (try with_reducible rfl))
  (try simp only [Act.put, List.setIfInBounds_toArray, List.set_cons_zero, List.set_cons_succ])
  refine Draw.take_w (i := 8) (v := ?vv20) rfl (by kernel_rfl) (by kernel_rfl) (by kernel_rfl) (fun _ _ _ h => h) (by rfl) ?hy20 (by assumption) ?rest20
  case hy20 => ((intro w hSw); (try dsimp only at hSw); go_simp; (try with_reducible rfl))
  (try simp only [Act.put, List.setIfInBounds_toArray, List.set_cons_zero, List.set_cons_succ])
  refine Draw.take_w (i := 9) (v := ?vv21) rfl (by kernel_rfl) (by kernel_rfl) (by kernel_rfl) (fun _ _ _ h => h) (by rfl) ?hy21 (by assumption) ?rest21
  case hy21 => ((intro w hSw); (try dsimp only at hSw); go_simp; (try with_reducible rfl))
  (try simp only [Act.put, List.setIfInBounds_toArray, List.set_cons_zero, List.set_cons_succ])
  refine Draw.take_w (i := 10) (v := ?vv22) rfl (by kernel_rfl) (by kernel_rfl) (by kernel_rfl) (fun _ _ _ h => h) (by rfl) ?hy22 (by assumption) ?rest22
  case hy22 => ((intro w hSw); (try dsimp only at hSw); go_simp; (try with_reducible rfl))
  (try simp only [Act.put, List.setIfInBounds_toArray, List.set_cons_zero, List.set_cons_succ])
  refine Draw.call_d (i := 7) rfl (by kernel_rfl) (by rfl) (fun K hK => ?_)
  go_simp
  refine (HS1.out _ HC.out.t).mono ?_
  rintro e w3 ⟨rfl, t2, k2⟩
  replace HO := Lib.hid (at_chg HO.out k2 (fun h => ty h.symm))
  replace HF := Lib.hid (at_chg HF.out k2 (fun h => ty6 h.symm))
  replace HC := Lib.hid (cod_chg HC.out (Or.inr t2) k2)
  replace HG := Lib.hid (chg_then HG.out k2)
  clear t2 k2
  refine hK.out _ _ ?_ (fun hHeld => ?_)
  · (try dsimp only)
    exact (at1 HC.out.a).1
  clear hK K
  (try simp only [Act.put, List.setIfInBounds_toArray, List.set_cons_zero, List.set_cons_succ])
  refine Draw.call_d (i := 11) rfl (by kernel_rfl) (by rfl) (fun K hK => ?_)
  go_simp
  refine (HU.out _).mono ?_
  rintro e w4 ⟨rfl, b1⟩
  replace HO := Lib.hid (at_below HO.out b1)
  replace HF := Lib.hid (at_below HF.out b1)
  replace HC := Lib.hid (cod_below HC.out b1)
  replace HG := Lib.hid (chg_below HG.out b1)
  clear b1
  refine hK.out _ _ ?_ (fun hHeld => ?_)
  · (try dsimp only)
    exact (at1 HC.out.a).1
  clear hK K
  (try simp only [Act.put, List.setIfInBounds_toArray, List.set_cons_zero, List.set_cons_succ])
  refine Draw.take_w (i := 12) (v := ?vv23) rfl (by kernel_rfl) (by kernel_rfl) (by kernel_rfl) (fun _ _ _ h => h) (by rfl) ?hy23 (by assumption) ?rest23
  case hy23 => ((intro w hSw); (try dsimp only at hSw); go_simp; (try with_reducible rfl))
  (try simp only [Act.put, List.setIfInBounds_toArray, List.set_cons_zero, List.set_cons_succ])
  refine Draw.take_w (i := 13) (v := ?vv24) rfl (by kernel_rfl) (by kernel_rfl) (by kernel_rfl) (fun _ _ _ h => h) (by rfl) ?hy24 (by assumption) ?rest24
  case hy24 => ((intro w hSw); (try dsimp only at hSw); go_simp; (try with_reducible rfl))
  (try simp only [Act.put, List.setIfInBounds_toArray, List.set_cons_zero, List.set_cons_succ])
  refine wpAnyH_done (by kernel_rfl) ?_ _
  obtain ⟨x0, x1, x2, x3, f0, f1, f2, f3⟩ := at4 HO.out
  obtain ⟨y0, y1, y2, y3, g0, g1, g2, g3⟩ := at4 HF.out
  go_wp2_with (fail)
  clear x0 x1 x2 x3 f0 f1 f2 f3 y0 y1 y2 y3 g0 g1 g2 g3
  have HX6 : Chg (fun x => x = w.heap.size + 1) w4 (w4.setCell ⟨w.heap.size + 1, 3, none⟩ (.string B)) := chg_set (chg_refl _ _) rfl
  replace HO := Lib.hid (at_set_ne (b' := w.heap.size + 1) (i := 3) (v := .string B) HO.out (by omega))
  replace HC := Lib.hid (cod_far HC.out HX6 cy6 ty6)
  replace HG := Lib.hid (chg_set_new (b := w.heap.size + 1) (i := 3) (v := .string B) HG.out (by omega))
  clear HX6 HF
  generalize w4.setCell ⟨w.heap.size + 1, 3, none⟩ (.string B) = w5 at *
  have HS := Lib.hid (at_set4 (v0 := .int .u8 (s1 : Int)) (v1 := .int .u8 (s2 : Int)) (v2 := .int .u8 (s3 : Int)) (v3 := .string B) HO.out)
  have HX : Chg (fun x => x = w.heap.size) w5 (((((w5.setCell ⟨w.heap.size, 0, none⟩ (.int .u8 (s1 : Int))).setCell ⟨w.heap.size, 1, none⟩ (.int .u8 (s2 : Int))).setCell ⟨w.heap.size, 2, none⟩ (.int .u8 (s3 : Int))).setCell ⟨w.heap.size, 3, none⟩ (.string B))) := chg_set (chg_set (chg_set (chg_set (chg_refl _ _) rfl) rfl) rfl) rfl
  have HT2 := Lib.hid (is_chg HC.out.t HX ty)
  have HG2 : Hid (Chg (fun x => x = tb) w (((((w5.setCell ⟨w.heap.size, 0, none⟩ (.int .u8 (s1 : Int))).setCell ⟨w.heap.size, 1, none⟩ (.int .u8 (s2 : Int))).setCell ⟨w.heap.size, 2, none⟩ (.int .u8 (s3 : Int))).setCell ⟨w.heap.size, 3, none⟩ (.string B)))) := Lib.hid (chg_set_new (chg_set_new (chg_set_new (chg_set_new HG.out (Nat.le_refl _)) (Nat.le_refl _)) (Nat.le_refl _)) (Nat.le_refl _))
  clear HX HO HG
  generalize ((((w5.setCell ⟨w.heap.size, 0, none⟩ (.int .u8 (s1 : Int))).setCell ⟨w.heap.size, 1, none⟩ (.int .u8 (s2 : Int))).setCell ⟨w.heap.size, 2, none⟩ (.int .u8 (s3 : Int))).setCell ⟨w.heap.size, 3, none⟩ (.string B)) = wz at *
  obtain ⟨zz0, zz1, zz2, zz3, -⟩ := at4 HS.out
  refine bodyPost_ret (by simp [results, Try.results10, go_sem, zz0, zz1, zz2, zz3]; try rfl) rfl ?_
  exact ⟨rfl, HT2.out, HG2.out⟩
theorem pdec (c tb : Nat) (s : ByteArray) (w : World) (hc : Cod w c tb) (hs : s.size ≤ 999000) :
    Calls Try.prog 10 #[.pointer (some ⟨c, 0, none⟩), .string s] w fun e w' => e = .returned (decV (decR s)) ∧ IsTab w' tb ∧ Chg (fun x => x = tb) w w' := by
  unfold decR
  by_cases h1 : s.size < 12
  · rw [if_pos h1]; exact dec_short c tb s w hc hs h1
  rw [if_neg h1]
  by_cases h2 : ¬ by' s 0 = 1
  · rw [if_pos h2]; exact dec_2 c tb s w hc hs _ _ _ _ _ _ _ _ (by omega) rfl rfl rfl rfl rfl rfl rfl rfl h2
  rw [if_neg h2]
  have h2 : by' s 0 = 1 := by omega
  by_cases h3 : mayF (by' s 1) (by' s 2) (by' s 3) = false
  · rw [if_pos h3]; exact dec_3 c tb s w hc hs _ _ _ _ _ _ _ _ (by omega) rfl rfl rfl rfl rfl rfl rfl rfl h2 h3
  rw [if_neg h3]
  have h3 : mayF (by' s 1) (by' s 2) (by' s 3) = true := by simpa using h3
  by_cases h4 : 1048576 < num4 s 4
  · rw [if_pos h4]; exact dec_4 c tb s w hc hs _ _ _ _ _ _ _ _ (by omega) rfl rfl rfl rfl rfl rfl rfl rfl h2 h3 h4
  rw [if_neg h4]
  by_cases h5 : s.size < 12 + num4 s 4
  · rw [if_pos h5]; exact dec_5 c tb s w hc hs _ _ _ _ _ _ _ _ (by omega) rfl rfl rfl rfl rfl rfl rfl rfl h2 h3 h4 h5
  rw [if_neg h5]
  by_cases h6 : 12 + num4 s 4 < s.size
  · rw [if_pos h6]; exact dec_6 c tb s w hc hs _ _ _ _ _ _ _ _ (by omega) rfl rfl rfl rfl rfl rfl rfl rfl h2 h3 h4 h5 h6
  rw [if_neg h6]
  by_cases h7 : more 0 (s.extract 0 (s.size - 4)) = num4 s (s.size - 4)
  · rw [if_neg (by omega)]; exact dec_8 c tb s w hc hs _ _ _ _ _ _ _ _ (by omega) rfl rfl rfl rfl rfl rfl rfl rfl h2 h3 h4 h5 h6 h7
  · rw [if_pos h7]; exact dec_7 c tb s w hc hs _ _ _ _ _ _ _ _ (by omega) rfl rfl rfl rfl rfl rfl rfl rfl h2 h3 h4 h5 h6 h7
end Go.Proofs.Ytkddaedjgbakkaa.Frame

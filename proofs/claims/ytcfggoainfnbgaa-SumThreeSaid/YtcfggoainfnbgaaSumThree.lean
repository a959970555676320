/- SumThree answers true: the walk (own text). -/
import Derived.Test.YtcfggoainfnbgaaSumByte
import Derived.Test.YtcfggoainfnbgaaDraw
import Derived.Deep.Cut
import Derived.Laws.MakeOwn
namespace Go.Proofs.Ytcfggoainfnbgaa.Sum
open Go.RowKit Go.Proofs.Ytcfggoainfnbgaa.Mem Go.Proofs.Ytcfggoainfnbgaa.Once Go.Proofs.Ytcfggoainfnbgaa
set_option linter.unusedVariables false
set_option linter.unusedSimpArgs false
theorem by_extract (a : ByteArray) (n k : Nat) (hk : k < n) (hn : n ≤ a.size) : by' (a.extract 0 n) k = by' a k := by
  have hz : (a.extract 0 n).size = n := by rw [ByteArray.size_extract]; omega
  unfold by'
  rw [dif_pos (by omega), dif_pos (by omega)]
  congr 1
  rw [ByteArray.getElem_extract]
  congr 1
  omega
theorem three_more (a b c : ByteArray) (n : Nat) (ha : n ≤ a.size) (hb : n ≤ b.size) (hc : n ≤ c.size) :
    more 0 (ofB n (fun i => by' a i ^^^ by' b i ^^^ by' c i)) = more 0 (a.extract 0 n) ^^^ more 0 (b.extract 0 n) ^^^ more 0 (c.extract 0 n) := by
  have za : (a.extract 0 n).size = n := by rw [ByteArray.size_extract]; omega
  have zb : (b.extract 0 n).size = n := by rw [ByteArray.size_extract]; omega
  have zc : (c.extract 0 n).size = n := by rw [ByteArray.size_extract]; omega
  have h := three (a.extract 0 n) (b.extract 0 n) (c.extract 0 n) (ofB n (fun i => by' a i ^^^ by' b i ^^^ by' c i)) n (fun k hk => by
    have l1 : by' a k ^^^ by' b k ^^^ by' c k < 256 := Nat.xor_lt_two_pow (n := 8) (Nat.xor_lt_two_pow (n := 8) (by_lt a k) (by_lt b k)) (by_lt c k)
    rw [ofB_at n _ k hk l1, by_extract a n k hk ha, by_extract b n k hk hb, by_extract c n k hk hc]) (0 ^^^ 4294967295) n (Nat.le_refl _)
  unfold more
  rw [ofB_size, za, zb, zc, h]
  generalize go (a.extract 0 n) (0 ^^^ 4294967295) n = x
  generalize go (b.extract 0 n) (0 ^^^ 4294967295) n = y
  generalize go (c.extract 0 n) (0 ^^^ 4294967295) n = z
  generalize 4294967295 = f
  apply Nat.eq_of_testBit_eq
  intro i
  simp only [Nat.testBit_xor]
  cases x.testBit i <;> cases y.testBit i <;> cases z.testBit i <;> cases f.testBit i <;> rfl
theorem row_made (w : World) (n : Nat) : Row (w.alloc (.cells (madeCells #[.int .u8 0] n) 5)) w.heap.size n (fun _ => 0) := by
  refine ⟨fun i hi => ?_, fun i hi => ?_, fun i => by omega, by rw [World.size_alloc]; omega⟩
  · rw [World.cell?_alloc_mark]
    unfold madeCells
    rw [Array.getElem?_map, Array.getElem?_range, if_pos hi]
    simp
    simp [Nat.mod_one]
  · rw [World.frozen?_alloc_mark]
    simp
theorem row_drewN {w : World} {b n m : Nat} {f : Nat → Nat} (h : Row w b n f) : Row (w.drewN m) b n f := ⟨h.c, h.z, h.l, h.s⟩
theorem row_drew {w : World} {b n : Nat} {f : Nat → Nat} (h : Row w b n f) : Row w.drew b n f := ⟨h.c, h.z, h.l, h.s⟩
theorem row_fun {w : World} {b n : Nat} {f g : Nat → Nat} (h : Row w b n f) (e : ∀ i, i < n → f i = g i) (hg : ∀ i, g i < 256) : Row w b n g := ⟨fun i hi => by rw [← e i hi]; exact h.c i hi, h.z, hg, h.s⟩
theorem is_drew {w : World} {b : Nat} (h : IsTab w b) : IsTab w.drew b := h.imp (fun h => ⟨h.c0, h.c1, h.cE, h.z⟩) (fun h => ⟨h.c0, h.c1, h.cE, h.z⟩)
set_option maxRecDepth 100000 in
set_option maxHeartbeats 1600000 in
theorem SumThree_walk (a b c : ByteArray) (w : World) :
    Calls Try.prog 7 #[.string a, .string b, .string c] w fun e w' => e = .returned (.bool true) ∧ Below w.heap.size w w' := by
  obtain ⟨n, hn, na, nb, nc, n3⟩ : ∃ n : Nat, (∀ W : World, (Builtin.min_ #[3, 3, 3, 3] 3 #[.int .i64 a.size, .int .i64 b.size, .int .i64 c.size, .int .i64 3000]).run Try.prog W = .ok (.int .i64 (n : Int)) W) ∧ n ≤ a.size ∧ n ≤ b.size ∧ n ≤ c.size ∧ n ≤ 3000 := by
    refine ⟨min (min (min a.size b.size) c.size) 3000, fun W => ?_, by omega, by omega, by omega, by omega⟩
    simp [Builtin.min_, Builtin.min2]
    repeat' split
    all_goals omega
  have hmk : ∀ W : World, (Instr.makeSlice 33 (.int .i64 n) (.int .i64 n)).run Try.prog W = .ok (.slice (some ⟨W.heap.size, 0, none⟩) n n) (W.alloc (.cells (madeCells #[.int .u8 0] n) 5)) := by
    intro W
    have h := run_make (P := Try.prog) W 33 5 _ (.int .u8 0) rfl rfl rfl .i64 .i64 n n (by omega) (by omega) (by show ((1 : Nat) : Int) * _ ≤ _; omega) (by omega)
    refine h.trans ?_
    show Result.ok (Value.slice (some ⟨W.heap.size, 0, none⟩) (Int.toNat n) (Int.toNat n)) (W.alloc (.cells (madeCells #[.int .u8 0] (Int.toNat n * 1)) 5)) = _
    rw [Int.toNat_natCast, Nat.mul_one]
  have hla : ∀ k, k < n → k < a.size := by intros; omega
  have hlb : ∀ k, k < n → k < b.size := by intros; omega
  have hlc : ∀ k, k < n → k < c.size := by intros; omega
  have h3 := three_more a b c n na nb nc
  have sa : (a.extract 0 n).size = n := by rw [ByteArray.size_extract]; omega
  have sb : (b.extract 0 n).size = n := by rw [ByteArray.size_extract]; omega
  have sc : (c.extract 0 n).size = n := by rw [ByteArray.size_extract]; omega
  have su := ofB_size n (fun i => by' a i ^^^ by' b i ^^^ by' c i)
  go_enter Try.func7, Try.ntmps7
  go_wp2_with (fail)
  have HR := Lib.hid (row_made w n)
  have HB := Lib.hid (below_al (o := .cells (madeCells #[.int .u8 0] n) 5) (Below.refl w.heap.size w))
  clear hmk hn
  generalize w.alloc (.cells (madeCells #[.int .u8 0] n) 5) = w1 at *
  go_loopw [22] (fun v w' => ∃ k : Nat, k ≤ n ∧ v = .int .i64 k ∧ Hid (Row w' w.heap.size n (fun i => if i < k then by' a i ^^^ by' b i ^^^ by' c i else 0)) ∧ Hid (Below w.heap.size w w')) (fun v _ => n - (intOf v).toNat)
  case atStart => exact ⟨0, by omega, rfl, Lib.hid (row_fun HR.out (fun i _ => by simp) (fun i => by simp)), HB⟩
  case round =>
    clear HR HB
    obtain ⟨k, hk, rfl, HR, HB⟩ := hrel
    by_cases hlt : k < n
    · have l1 := hla k hlt
      have l2 := hlb k hlt
      have l3 := hlc k hlt
      have a1 := by_at a k l1
      have a2 := by_at b k l2
      have a3 := by_at c k l3
      have e1 : wr.cell? ⟨w.heap.size, k, none⟩ = some (.int .u8 0) := by have := HR.out.c k hlt; simpa using this
      have e2 := HR.out.z k hlt
      have x1 : by' a k ^^^ by' b k < 256 := Nat.xor_lt_two_pow (n := 8) (by_lt a k) (by_lt b k)
      have x2 : by' a k ^^^ by' b k ^^^ by' c k < 256 := Nat.xor_lt_two_pow (n := 8) x1 (by_lt c k)
      have q1 := u8_xor_nat _ _ (by_lt a k) (by_lt b k)
      have q2 := u8_xor_nat _ _ x1 (by_lt c k)
      go_wp2_with (fail)
      go_region
      go_wp2_with (fail)
      refine ⟨⟨k + 1, by omega, by go_num, Lib.hid (row_drew (row_fun (row_set HR.out hlt x2) (fun i hi => ?_) (fun i => ?_))), Lib.hid (Below.drew (below_new HB.out (Nat.le_refl _)))⟩, by simp [intOf]; omega⟩
      · show (if i = k then _ else if i < k then _ else 0) = if i < k + 1 then _ else 0
        by_cases e : i = k
        · subst e; simp
        · rw [if_neg e]
          by_cases e3 : i < k
          · rw [if_pos e3, if_pos (by omega)]
          · rw [if_neg e3, if_neg (by omega)]
      · show (if i < k + 1 then _ else 0) < 256
        split
        · exact Nat.xor_lt_two_pow (n := 8) (Nat.xor_lt_two_pow (n := 8) (by_lt a i) (by_lt b i)) (by_lt c i)
        · decide
    · obtain rfl : k = n := by omega
      replace HR := Lib.hid (row_fun HR.out (g := fun i => by' a i ^^^ by' b i ^^^ by' c i) (fun i hi => by simp [hi]) (fun i => Nat.xor_lt_two_pow (n := 8) (Nat.xor_lt_two_pow (n := 8) (by_lt a i) (by_lt b i)) (by_lt c i)))
      have hA : ∀ W : World, (Instr.slice 9 (.string a) none (some (.int .i64 k)) none).run Try.prog W = .ok (.string (a.extract 0 k)) W := fun W => by go_simp
      have hB : ∀ W : World, (Instr.slice 9 (.string b) none (some (.int .i64 k)) none).run Try.prog W = .ok (.string (b.extract 0 k)) W := fun W => by go_simp
      have hC : ∀ W : World, (Instr.slice 9 (.string c) none (some (.int .i64 k)) none).run Try.prog W = .ok (.string (c.extract 0 k)) W := fun W => by go_simp
      generalize a.extract 0 k = ta at *
      generalize b.extract 0 k = tb at *
      generalize c.extract 0 k = tc at *
      generalize hU : ofB k (fun i => by' a i ^^^ by' b i ^^^ by' c i) = u at *
      have KF := Lib.hid fixed_any
      have KU := Lib.hid (fun (b : Nat) (W : World) (h : IsTab W b) => sum_any b u W h (by omega))
      have KA := Lib.hid (fun (b : Nat) (W : World) (h : IsTab W b) => sum_any b ta W h (by omega))
      have KB := Lib.hid (fun (b : Nat) (W : World) (h : IsTab W b) => sum_any b tb W h (by omega))
      have KC := Lib.hid (fun (b : Nat) (W : World) (h : IsTab W b) => sum_any b tc W h (by omega))
      have g1 := more_lt ta (show 0 < 4294967296 by decide)
      have g2 := more_lt tb (show 0 < 4294967296 by decide)
      have g3 := more_lt tc (show 0 < 4294967296 by decide)
      have g4 : more 0 ta ^^^ more 0 tb < 4294967296 := Nat.xor_lt_two_pow (n := 32) g1 g2
      have q1 := u32_xor_nat _ _ g1 g2
      have q2 := u32_xor_nat _ _ g4 g3
      rw [← h3] at q2
      clear h3 hla hlb hlc sa sb sc su
      go_wp2_with (fail)
      refine (new_any wr).mono ?_
      rintro e w2 ⟨rfl, t1, b1, z1⟩
      have HT := Lib.hid (show IsTab w2 wr.heap.size from Or.inl t1)
      have z2 : w.heap.size < wr.heap.size := HR.out.s
      replace HR := Lib.hid (row_below HR.out b1)
      replace HB := Lib.hid (below_on HB.out b1)
      clear t1 b1
      generalize wr.heap.size = y at *
      go_wp2_with (fail)
      have HR' := Lib.hid (row_drew HR.out)
      replace HT := Lib.hid (is_drew HT.out)
      replace HB := Lib.hid (Below.drew HB.out)
      clear HR
      have HR := HR'
      clear HR'
      refine wp_region_held_drew (S := (fun W => (convert 33 9 (.slice (some ⟨w.heap.size, 0, none⟩) k k)).run Try.prog W = .ok (.string u) W)) (by kernel_rfl) ?_ (fun hHeld => ?_)
      · (try dsimp only)
        (rw [← hU]; exact row_conv HR.out)
      refine Draw.call_d (i := 0) rfl (by kernel_rfl) (by rfl) (fun K hK => ?_)
      go_simp
      refine (KF.out _).mono ?_
      rintro e w3 ⟨rfl, b2⟩
      replace HT := Lib.hid (is_below HT.out b2)
      replace HR := Lib.hid (row_below HR.out b2)
      replace HB := Lib.hid (below_on HB.out b2)
      clear b2
      refine hK.out _ _ ?_ (fun hHeld => ?_)
      · (try dsimp only)
        (rw [← hU]; exact row_conv HR.out)
      clear hK K
      (try simp only [Act.put, List.setIfInBounds_toArray, List.set_cons_zero, List.set_cons_succ])
      refine Draw.take_w (i := 1) (v := ?vv1) rfl (by kernel_rfl) (by kernel_rfl) (by kernel_rfl) (fun _ _ _ h => h) (by rfl) ?hy1 (by assumption) ?rest1
      case hy1 => ((intro w hSw); (try dsimp only at hSw); go_simp; (try with_reducible rfl))
      (try simp only [Act.put, List.setIfInBounds_toArray, List.set_cons_zero, List.set_cons_succ])
      refine Draw.take_w (i := 2) (v := ?vv2) rfl (by kernel_rfl) (by kernel_rfl) (by kernel_rfl) (fun _ _ _ h => h) (by rfl) ?hy2 (by assumption) ?rest2
      case hy2 => ((intro w hSw); (try dsimp only at hSw); go_simp; (try with_reducible rfl))
      (try simp only [Act.put, List.setIfInBounds_toArray, List.set_cons_zero, List.set_cons_succ])
      refine Draw.take_w (i := 3) (v := ?vv3) rfl (by kernel_rfl) (by kernel_rfl) (by kernel_rfl) (fun _ _ _ h => h) (by rfl) ?hy3 (by assumption) ?rest3
      case hy3 => ((intro w hSw); (try dsimp only at hSw); go_simp; (try with_reducible rfl))
      (try simp only [Act.put, List.setIfInBounds_toArray, List.set_cons_zero, List.set_cons_succ])
      refine Draw.take_w (i := 4) (v := ?vv4) rfl (by kernel_rfl) (by kernel_rfl) (by kernel_rfl) (fun _ _ _ h => h) (by rfl) ?hy4 (by assumption) ?rest4
      case hy4 => ((intro w hSw); (try dsimp only at hSw); go_simp; (try with_reducible rfl))
      (try simp only [Act.put, List.setIfInBounds_toArray, List.set_cons_zero, List.set_cons_succ])
      refine Draw.take_w (i := 6) (v := ?vv5) rfl (by kernel_rfl) (by kernel_rfl) (by kernel_rfl) (fun _ _ _ h => h) (by rfl) ?hy5 (by assumption) ?rest5
      case hy5 => ((intro w hSw); (try dsimp only at hSw); go_simp; (try with_reducible rfl))
      (try simp only [Act.put, List.setIfInBounds_toArray, List.set_cons_zero, List.set_cons_succ])
      refine Draw.take_w (i := 7) (v := ?vv6) rfl (by kernel_rfl) (by kernel_rfl) (by kernel_rfl) (fun _ _ _ h => h) (by rfl) ?hy6 (by assumption) ?rest6
      case hy6 => ((intro w hSw); (try dsimp only at hSw); go_simp; (try with_reducible rfl))
      (try simp only [Act.put, List.setIfInBounds_toArray, List.set_cons_zero, List.set_cons_succ])
      refine Draw.take_w (i := 8) (v := ?vv7) rfl (by kernel_rfl) (by kernel_rfl) (by kernel_rfl) (fun _ _ _ h => h) (by rfl) ?hy7 (by assumption) ?rest7
      case hy7 => ((intro w hSw); (try dsimp only at hSw); go_simp; (try with_reducible rfl))
      (try simp only [Act.put, List.setIfInBounds_toArray, List.set_cons_zero, List.set_cons_succ])
      refine Draw.take_w (i := 9) (v := ?vv8) rfl (by kernel_rfl) (by kernel_rfl) (by kernel_rfl) (fun _ _ _ h => h) (by rfl) ?hy8 (by assumption) ?rest8
      case hy8 => ((intro w hSw); (try dsimp only at hSw); go_simp; (try with_reducible rfl))
      (try simp only [Act.put, List.setIfInBounds_toArray, List.set_cons_zero, List.set_cons_succ])
      refine Draw.take_w (i := 11) (v := ?vv9) rfl (by kernel_rfl) (by kernel_rfl) (by kernel_rfl) (fun _ _ _ h => h) (by rfl) ?hy9 (by assumption) ?rest9
      case hy9 => ((intro w hSw); (try dsimp only at hSw); go_simp; (try with_reducible rfl))
      (try simp only [Act.put, List.setIfInBounds_toArray, List.set_cons_zero, List.set_cons_succ])
      refine Draw.take_w (i := 12) (v := ?vv10) rfl (by kernel_rfl) (by kernel_rfl) (by kernel_rfl) (fun _ _ _ h => h) (by rfl) ?hy10 (by assumption) ?rest10
      case hy10 => ((intro w hSw); (try dsimp only at hSw); go_simp; (try with_reducible rfl))
      (try simp only [Act.put, List.setIfInBounds_toArray, List.set_cons_zero, List.set_cons_succ])
      refine Draw.take_w (i := 13) (v := ?vv11) rfl (by kernel_rfl) (by kernel_rfl) (by kernel_rfl) (fun _ _ _ h => h) (by rfl) ?hy11 (by assumption) ?rest11
      case hy11 => ((intro w hSw); (try dsimp only at hSw); go_simp; (try with_reducible rfl))
      (try simp only [Act.put, List.setIfInBounds_toArray, List.set_cons_zero, List.set_cons_succ])
      refine Draw.take_w (i := 14) (v := ?vv12) rfl (by kernel_rfl) (by kernel_rfl) (by kernel_rfl) (fun _ _ _ h => h) (by rfl) ?hy12 (by assumption) ?rest12
      case hy12 => ((intro w hSw); (try dsimp only at hSw); go_simp; (try with_reducible rfl))
      (try simp only [Act.put, List.setIfInBounds_toArray, List.set_cons_zero, List.set_cons_succ])
      refine Draw.take_w (i := 17) (v := ?vv13) rfl (by kernel_rfl) (by kernel_rfl) (by kernel_rfl) (fun _ _ _ h => h) (by rfl) ?hy13 (by assumption) ?rest13
      case hy13 => ((intro w hSw); (try dsimp only at hSw); go_simp; (try with_reducible rfl))
      (try simp only [Act.put, List.setIfInBounds_toArray, List.set_cons_zero, List.set_cons_succ])
      refine Draw.take_w (i := 18) (v := ?vv14) rfl (by kernel_rfl) (by kernel_rfl) (by kernel_rfl) (fun _ _ _ h => h) (by rfl) ?hy14 (by assumption) ?rest14
      case hy14 => ((intro w hSw); (try dsimp only at hSw); go_simp; (try with_reducible rfl))
      (try simp only [Act.put, List.setIfInBounds_toArray, List.set_cons_zero, List.set_cons_succ])
      refine Draw.take_w (i := 19) (v := ?vv15) rfl (by kernel_rfl) (by kernel_rfl) (by kernel_rfl) (fun _ _ _ h => h) (by rfl) ?hy15 (by assumption) ?rest15
      case hy15 => ((intro w hSw); (try dsimp only at hSw); go_simp; (try with_reducible rfl))
      (try simp only [Act.put, List.setIfInBounds_toArray, List.set_cons_zero, List.set_cons_succ])
      refine Draw.take_w (i := 20) (v := ?vv16) rfl (by kernel_rfl) (by kernel_rfl) (by kernel_rfl) (fun _ _ _ h => h) (by rfl) ?hy16 (by assumption) ?rest16
      case hy16 => ((intro w hSw); (try dsimp only at hSw); go_simp; (try with_reducible rfl))
      (try simp only [Act.put, List.setIfInBounds_toArray, List.set_cons_zero, List.set_cons_succ])
      refine Draw.call_d (i := 5) rfl (by kernel_rfl) (by rfl) (fun K hK => ?_)
      go_simp
      refine (KU.out _ _ HT.out).mono ?_
      rintro e w4 ⟨rfl, t2, k2⟩
      replace HT := Lib.hid (show IsTab w4 _ from Or.inr t2)
      replace HB := Lib.hid (below_chg HB.out k2 (fun i h => by omega))
      replace HR := Lib.hid (row_chg HR.out k2 (by omega))
      clear t2 k2
      refine hK.out _ _ ?_ (fun hHeld => ?_)
      · (try dsimp only)
        (rw [← hU]; exact row_conv HR.out)
      clear hK K
      (try simp only [Act.put, List.setIfInBounds_toArray, List.set_cons_zero, List.set_cons_succ])
      refine Draw.call_d (i := 10) rfl (by kernel_rfl) (by rfl) (fun K hK => ?_)
      go_simp
      refine (KA.out _ _ HT.out).mono ?_
      rintro e w5 ⟨rfl, t2, k2⟩
      replace HT := Lib.hid (show IsTab w5 _ from Or.inr t2)
      replace HB := Lib.hid (below_chg HB.out k2 (fun i h => by omega))
      replace HR := Lib.hid (row_chg HR.out k2 (by omega))
      clear t2 k2
      refine hK.out _ _ ?_ (fun hHeld => ?_)
      · (try dsimp only)
        (rw [← hU]; exact row_conv HR.out)
      clear hK K
      (try simp only [Act.put, List.setIfInBounds_toArray, List.set_cons_zero, List.set_cons_succ])
      refine Draw.call_d (i := 15) rfl (by kernel_rfl) (by rfl) (fun K hK => ?_)
      go_simp
      refine (KB.out _ _ HT.out).mono ?_
      rintro e w6 ⟨rfl, t2, k2⟩
      replace HT := Lib.hid (show IsTab w6 _ from Or.inr t2)
      replace HB := Lib.hid (below_chg HB.out k2 (fun i h => by omega))
      replace HR := Lib.hid (row_chg HR.out k2 (by omega))
      clear t2 k2
      refine hK.out _ _ ?_ (fun hHeld => ?_)
      · (try dsimp only)
        (rw [← hU]; exact row_conv HR.out)
      clear hK K
      (try simp only [Act.put, List.setIfInBounds_toArray, List.set_cons_zero, List.set_cons_succ])
      refine Draw.take_w (i := 16) (v := ?vv17) rfl (by kernel_rfl) (by kernel_rfl) (by kernel_rfl) (fun _ _ _ h => h) (by rfl) ?hy17 (by assumption) ?rest17
      case hy17 => ((intro w hSw); (try dsimp only at hSw); go_simp; (try with_reducible rfl))
      (try simp only [Act.put, List.setIfInBounds_toArray, List.set_cons_zero, List.set_cons_succ])
      refine Draw.call_d (i := 21) rfl (by kernel_rfl) (by rfl) (fun K hK => ?_)
      go_simp
      refine (KC.out _ _ HT.out).mono ?_
      rintro e w7 ⟨rfl, t2, k2⟩
      replace HT := Lib.hid (show IsTab w7 _ from Or.inr t2)
      replace HB := Lib.hid (below_chg HB.out k2 (fun i h => by omega))
      replace HR := Lib.hid (row_chg HR.out k2 (by omega))
      clear t2 k2
      refine hK.out _ _ ?_ (fun hHeld => ?_)
      · (try dsimp only)
        (rw [← hU]; exact row_conv HR.out)
      clear hK K
      (try simp only [Act.put, List.setIfInBounds_toArray, List.set_cons_zero, List.set_cons_succ])
      refine Draw.take_w (i := 22) (v := ?vv18) rfl (by kernel_rfl) (by kernel_rfl) (by kernel_rfl) (fun _ _ _ h => h) (by rfl) ?hy18 (by assumption) ?rest18
      case hy18 => ((intro w hSw); (try dsimp only at hSw); go_simp; (try with_reducible rfl))
      (try simp only [Act.put, List.setIfInBounds_toArray, List.set_cons_zero, List.set_cons_succ])
      refine Draw.take_w (i := 23) (v := ?vv19) rfl (by kernel_rfl) (by kernel_rfl) (by kernel_rfl) (fun _ _ _ h => h) (by rfl) ?hy19 (by assumption) ?rest19
      case hy19 => ((intro w hSw); (try dsimp only at hSw); go_simp; (try with_reducible rfl))
      (try simp only [Act.put, List.setIfInBounds_toArray, List.set_cons_zero, List.set_cons_succ])
      refine Draw.take_w (i := 24) (v := ?vv20) rfl (by kernel_rfl) (by kernel_rfl) (by kernel_rfl) (fun _ _ _ h => h) (by rfl) ?hy20 (by assumption) ?rest20
      case hy20 => ((intro w hSw); (try dsimp only at hSw); go_simp; (try with_reducible rfl))
      (try simp only [Act.put, List.setIfInBounds_toArray, List.set_cons_zero, List.set_cons_succ])
      refine Draw.take_w (i := 25) (v := ?vv21) rfl (by kernel_rfl) (by kernel_rfl) (by kernel_rfl) (fun _ _ _ h => h) (by rfl) ?hy21 (by assumption) ?rest21
      case hy21 => ((intro w hSw); (try dsimp only at hSw); go_simp; (try with_reducible rfl))
      (try simp only [Act.put, List.setIfInBounds_toArray, List.set_cons_zero, List.set_cons_succ])
      refine wpAnyH_done (by kernel_rfl) ?_ _
      go_wp2_with (fail)
      go_ret
      exact ⟨rfl, HB.out⟩
end Go.Proofs.Ytcfggoainfnbgaa.Sum

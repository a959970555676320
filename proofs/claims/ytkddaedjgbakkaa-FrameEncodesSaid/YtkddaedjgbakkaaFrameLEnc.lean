/- FrameEncodes answers true: the walk (own text; printed by wip/tools/gen_framelaws.py, a program of this session). -/
import Derived.Test.YtkddaedjgbakkaaFrameFix
namespace Go.Proofs.Ytkddaedjgbakkaa.Frame
open Go.Proofs.Ytkddaedjgbakkaa Go.RowKit Go.Proofs.Ytkddaedjgbakkaa.Mem Go.Proofs.Ytkddaedjgbakkaa.Sum
set_option linter.unusedVariables false
set_option linter.unusedSimpArgs false
theorem enc_great (k f t : Nat) (b : ByteArray) (w : World) (h : 5000 < b.size) : Calls Try.prog 3 #[.agg #[.int .u8 (k : Int), .int .u8 (f : Int), .int .u8 (t : Int), .string b]] w fun e w' => e = .returned (.bool true) ∧ Below w.heap.size w w' := by
  have c1 : decide ((5000 : Int) < (b.size : Int)) = true := decide_eq_true (by omega)
  go_enter Try.func3, Try.ntmps3
  go_wp2_with (fail)
  refine (fixed_any _).mono ?_
  rintro e w1 ⟨rfl, b1⟩
  go_wp2_with (fail)
  go_ret
  exact ⟨rfl, below_on (below_al (Below.refl _ _)) b1⟩
set_option maxHeartbeats 800000 in
theorem enc_ok (k f t : Nat) (b : ByteArray) (w : World) (h : b.size ≤ 5000) (hk : k < 256) (hf : f < 256) (ht : t < 256) : Calls Try.prog 3 #[.agg #[.int .u8 (k : Int), .int .u8 (f : Int), .int .u8 (t : Int), .string b]] w fun e w' => e = .returned (.bool true) ∧ Below w.heap.size w w' := by
  have c1 : decide ((5000 : Int) < (b.size : Int)) = false := decide_eq_false (by omega)
  have H1 := Lib.hid (fun c tb W h => penc c tb k f t b W h hk hf ht (by omega))
  have H2 := Lib.hid (fun W => refEnc_any k f t b W hk hf ht)
  generalize encS k f t b = es at *
  generalize encE k f t b = ee at *
  go_enter Try.func3, Try.ntmps3
  go_wp2_with (fail)
  have HA := Lib.hid (at_drew (at_new w #[.int .u8 (k : Int), .int .u8 (f : Int), .int .u8 (t : Int), .string b] 23))
  have HB := Lib.hid (Below.drew (below_al (o := .cells #[.int .u8 (k : Int), .int .u8 (f : Int), .int .u8 (t : Int), .string b] 23) (Below.refl w.heap.size w)))
  have hsz : w.heap.size < ((w.alloc (.cells #[.int .u8 (k : Int), .int .u8 (f : Int), .int .u8 (t : Int), .string b] 23)).drew).heap.size := At.lt HA.out
  generalize hW : (w.alloc (.cells #[.int .u8 (k : Int), .int .u8 (f : Int), .int .u8 (t : Int), .string b] 23)).drew = w0 at *
  subst hW
  refine wp_region_held_drew (S := (fun W => W.cell? ⟨w.heap.size, 0, none⟩ = some (.int .u8 (k : Int)) ∧ W.cell? ⟨w.heap.size, 1, none⟩ = some (.int .u8 (f : Int)) ∧ W.cell? ⟨w.heap.size, 2, none⟩ = some (.int .u8 (t : Int)) ∧ W.cell? ⟨w.heap.size, 3, none⟩ = some (.string b))) (by kernel_rfl) ?_ (fun hHeld => ?_)
  · (try dsimp only)
    exact ⟨(at4 HA.out).1, (at4 HA.out).2.1, (at4 HA.out).2.2.1, (at4 HA.out).2.2.2.1⟩
  refine Draw.take_w (i := 1) (v := ?vv1) rfl (by kernel_rfl) (by kernel_rfl) (by kernel_rfl) (fun _ _ _ h => h) (by rfl) ?hy1 (by assumption) ?rest1
  case hy1 => ((intro w hSw); (try dsimp only at hSw); go_simp; (try with_reducible rfl))
  (try simp only [Act.put, List.setIfInBounds_toArray, List.set_cons_zero, List.set_cons_succ])
  refine Draw.call_d (i := 0) rfl (by kernel_rfl) (by rfl) (fun K hK => ?_)
  go_simp
  refine (fnew _).mono ?_
  rintro e w1 ⟨c, tb, rfl, hc, g1, g2, g3, g4, b1⟩
  have HC := Lib.hid hc
  replace HA := Lib.hid (at_below HA.out b1)
  have gl : w.heap.size < tb := Nat.lt_of_lt_of_le hsz g2
  have gn : w.heap.size ≠ tb := by omega
  replace HB := Lib.hid (below_on HB.out b1)
  clear hc b1
  refine hK.out _ _ ?_ (fun hHeld => ?_)
  · (try dsimp only)
    exact ⟨(at4 HA.out).1, (at4 HA.out).2.1, (at4 HA.out).2.2.1, (at4 HA.out).2.2.2.1⟩
  clear hK K
  (try simp only [Act.put, List.setIfInBounds_toArray, List.set_cons_zero, List.set_cons_succ])
  refine Draw.call_d (i := 2) rfl (by kernel_rfl) (by rfl) (fun K hK => ?_)
  go_simp
  refine (H1.out _ _ _ HC.out).mono ?_
  rintro e w2 ⟨rfl, t2, k2⟩
  replace HA := Lib.hid (at_chg HA.out k2 gn)
  replace HB := Lib.hid (below_chg HB.out k2 (fun i h => by omega))
  clear t2 k2
  refine hK.out _ _ ?_ (fun hHeld => ?_)
  · (try dsimp only)
    exact ⟨(at4 HA.out).1, (at4 HA.out).2.1, (at4 HA.out).2.2.1, (at4 HA.out).2.2.2.1⟩
  clear hK K
  (try simp only [Act.put, List.setIfInBounds_toArray, List.set_cons_zero, List.set_cons_succ])
  refine Draw.take_w (i := 3) (v := ?vv2) rfl (by kernel_rfl) (by kernel_rfl) (by kernel_rfl) (fun _ _ _ h => h) (by rfl) ?hy2 (by assumption) ?rest2
  case hy2 => ((intro w hSw); (try dsimp only at hSw); go_simp; (try with_reducible rfl))
  (try simp only [Act.put, List.setIfInBounds_toArray, List.set_cons_zero, List.set_cons_succ])
  refine Draw.take_w (i := 4) (v := ?vv3) rfl (by kernel_rfl) (by kernel_rfl) (by kernel_rfl) (fun _ _ _ h => h) (by rfl) ?hy3 (by assumption) ?rest3
  case hy3 => ((intro w hSw); (try dsimp only at hSw); go_simp; (try with_reducible rfl))
  (try simp only [Act.put, List.setIfInBounds_toArray, List.set_cons_zero, List.set_cons_succ])
  refine Draw.take_w (i := 5) (v := ?vv4) rfl (by kernel_rfl) (by kernel_rfl) (by kernel_rfl) (fun _ _ _ h => h) (by rfl) ?hy4 (by assumption) ?rest4
  case hy4 => ((intro w hSw); (try dsimp only at hSw); go_simp; (try with_reducible rfl))
  (try simp only [Act.put, List.setIfInBounds_toArray, List.set_cons_zero, List.set_cons_succ])
  refine Draw.take_w (i := 6) (v := ?vv5) rfl (by kernel_rfl) (by kernel_rfl) (by kernel_rfl) (fun _ _ _ h => h) (by rfl) ?hy5 (by assumption) ?rest5
  case hy5 => ((intro w hSw); (try dsimp only at hSw); go_simp; (try with_reducible rfl))
  (try simp only [Act.put, List.setIfInBounds_toArray, List.set_cons_zero, List.set_cons_succ])
  refine Draw.take_w (i := 7) (v := ?vv6) rfl (by kernel_rfl) (by kernel_rfl) (by kernel_rfl) (fun _ _ _ h => h) (by rfl) ?hy6 (by assumption) ?rest6
  case hy6 => ((intro w hSw); (try dsimp only at hSw); go_simp; (try with_reducible rfl))
  (try simp only [Act.put, List.setIfInBounds_toArray, List.set_cons_zero, List.set_cons_succ])
  refine wpAnyH_done (by kernel_rfl) ?_ _
  obtain ⟨x0, x1, x2, x3, -⟩ := at4 HA.out
  go_wp2_with (fail)
  clear x0 x1 x2 x3
  refine (H2.out _).mono ?_
  rintro e w3 ⟨rfl, b3⟩
  replace HB := Lib.hid (below_on HB.out b3)
  clear b3
  go_wp2_with (fail)
  refine (fixed_any _).mono ?_
  rintro e w4 ⟨rfl, b4⟩
  go_wp2_with (fail)
  go_ret
  exact ⟨rfl, below_on HB.out b4⟩
theorem FrameEncodes_walk (k f t : Int) (b : ByteArray) (w : World) (h : (0 ≤ k ∧ k ≤ 255) ∧ (0 ≤ f ∧ f ≤ 255) ∧ (0 ≤ t ∧ t ≤ 255)) :
    Calls Try.prog 3 #[.agg #[.int .u8 k, .int .u8 f, .int .u8 t, .string b]] w fun e w' => e = .returned (.bool true) ∧ Below w.heap.size w w' := by
  obtain ⟨k', rfl⟩ : ∃ n : Nat, k = n := ⟨k.toNat, by omega⟩
  obtain ⟨f', rfl⟩ : ∃ n : Nat, f = n := ⟨f.toNat, by omega⟩
  obtain ⟨t', rfl⟩ : ∃ n : Nat, t = n := ⟨t.toNat, by omega⟩
  by_cases hb : b.size ≤ 5000
  · exact enc_ok k' f' t' b w hb (by omega) (by omega) (by omega)
  · exact enc_great k' f' t' b w (by omega)
end Go.Proofs.Ytkddaedjgbakkaa.Frame

/- HlcCompares answers true: the walk (own text). -/
import Derived.Test.YtcidckcdfacplaaHlcFixed
namespace Go.Proofs.Ytcidckcdfacplaa.Hlc
open Go.RowKit Go.Proofs.Ytcidckcdfacplaa.Mem
set_option linter.unusedVariables false
set_option linter.unusedSimpArgs false

theorem two_start (p l n p' l' n' : Int) (w W : World) (hW : W = (((w.alloc (.cells #[.int .u64 p, .int .u32 l, .int .u8 n] 25)).alloc (.cells #[.int .u64 p', .int .u32 l', .int .u8 n'] 25)).drew)) : W.cell? ⟨w.heap.size, 0, none⟩ = some (.int .u64 p) ∧ W.cell? ⟨w.heap.size, 1, none⟩ = some (.int .u32 l) ∧ W.cell? ⟨w.heap.size, 2, none⟩ = some (.int .u8 n) ∧ W.cell? ⟨w.heap.size + 1, 0, none⟩ = some (.int .u64 p') ∧ W.cell? ⟨w.heap.size + 1, 1, none⟩ = some (.int .u32 l') ∧ W.cell? ⟨w.heap.size + 1, 2, none⟩ = some (.int .u8 n') := by
  subst hW
  have a0 := at_drew (at_alloc (o := .cells #[.int .u64 p', .int .u32 l', .int .u8 n'] 25) (at_new w #[.int .u64 p, .int .u32 l, .int .u8 n] 25))
  have a1 := at_drew (at_new (w.alloc (.cells #[.int .u64 p, .int .u32 l, .int .u8 n] 25)) #[.int .u64 p', .int .u32 l', .int .u8 n'] 25)
  simp only [World.size_alloc] at a1
  have b0 := at3 a0
  have b1 := at3 a1
  exact ⟨b0.1, b0.2.1, b0.2.2.1, b1.1, b1.2.1, b1.2.2.1⟩
theorem two_next (p l n p' l' n' : Int) (w W0 W : World) (h : W0.cell? ⟨w.heap.size, 0, none⟩ = some (.int .u64 p) ∧ W0.cell? ⟨w.heap.size, 1, none⟩ = some (.int .u32 l) ∧ W0.cell? ⟨w.heap.size, 2, none⟩ = some (.int .u8 n) ∧ W0.cell? ⟨w.heap.size + 1, 0, none⟩ = some (.int .u64 p') ∧ W0.cell? ⟨w.heap.size + 1, 1, none⟩ = some (.int .u32 l') ∧ W0.cell? ⟨w.heap.size + 1, 2, none⟩ = some (.int .u8 n')) (k : Below W0.heap.size W0 W) : W.cell? ⟨w.heap.size, 0, none⟩ = some (.int .u64 p) ∧ W.cell? ⟨w.heap.size, 1, none⟩ = some (.int .u32 l) ∧ W.cell? ⟨w.heap.size, 2, none⟩ = some (.int .u8 n) ∧ W.cell? ⟨w.heap.size + 1, 0, none⟩ = some (.int .u64 p') ∧ W.cell? ⟨w.heap.size + 1, 1, none⟩ = some (.int .u32 l') ∧ W.cell? ⟨w.heap.size + 1, 2, none⟩ = some (.int .u8 n') := by
  obtain ⟨e0, e1, e2, e3, e4, e5⟩ := h
  have z0 := World.block_lt_of_cell? W0 _ e0
  have z1 := World.block_lt_of_cell? W0 _ e3
  obtain ⟨hc, hf⟩ := bcell k
  exact ⟨by rw [hc _ _ z0, e0], by rw [hc _ _ z0, e1], by rw [hc _ _ z0, e2], by rw [hc _ _ z1, e3], by rw [hc _ _ z1, e4], by rw [hc _ _ z1, e5]⟩

set_option maxRecDepth 100000 in
set_option maxHeartbeats 1600000 in
theorem HlcCompares_ltp (p l n p' l' n' : Int) (w : World) (h : cmpS p l n p' l' n' = -1) (hx : p ≠ p') :
    Calls Try.prog 3 #[.agg #[.int .u64 p, .int .u32 l, .int .u8 n], .agg #[.int .u64 p', .int .u32 l', .int .u8 n']] w fun e w' => e = .returned (.bool true) ∧ Below w.heap.size w w' := by
  have h1 := fun w => compare_any p l n p' l' n' w
  have h2 := fun w => compare_any p' l' n' p l n w
  have h3 := fun w => refCompare_any p l n p' l' n' w
  rw [cmpS_neg p l n p' l' n'] at h2
  rw [h] at h1 h2 h3
  rw [show -(-1 : Int) = 1 from rfl] at h2
  have H1 := Lib.hid h1
  have H2 := Lib.hid h2
  have H3 := Lib.hid h3
  have hne : (p == p') = false := by simpa using hx
  clear h1 h2 h3 h
  have hw1 : IntKind.i64.wrap 1 = 1 := by decide
  have hw2 : IntKind.i64.wrap (-1) = -1 := by decide
  have hw3 : IntKind.i64.wrap 0 = 0 := by decide
  go_enter Try.func3, Try.ntmps3
  go_wp2_with (fail)
  go_region_held3 (fun W => W.cell? ⟨w.heap.size, 0, none⟩ = some (.int .u64 p) ∧ W.cell? ⟨w.heap.size, 1, none⟩ = some (.int .u32 l) ∧ W.cell? ⟨w.heap.size, 2, none⟩ = some (.int .u8 n) ∧ W.cell? ⟨w.heap.size + 1, 0, none⟩ = some (.int .u64 p') ∧ W.cell? ⟨w.heap.size + 1, 1, none⟩ = some (.int .u32 l') ∧ W.cell? ⟨w.heap.size + 1, 2, none⟩ = some (.int .u8 n')) (first | exact two_start p l n p' l' n' w _ rfl | exact two_next p l n p' l' n' w _ _ (by assumption) hb1) (first | (go_at_call 9; (with_reducible refine (fixed_any _).mono ?_); rintro e w1 ⟨rfl, hb1⟩) | (go_at_call 10; (with_reducible refine (H1.out _).mono ?_); rintro e w1 ⟨rfl, hb1⟩) | (go_at_call 10; (with_reducible refine (H2.out _).mono ?_); rintro e w1 ⟨rfl, hb1⟩) | (go_at_call 11; (with_reducible refine (H3.out _).mono ?_); rintro e w1 ⟨rfl, hb1⟩))
  go_wp2
  go_ret
  exact ⟨rfl, by repeat (first | (with_reducible exact Below.refl _ _) | (with_reducible apply below_dn) | (with_reducible apply Below.drew) | (with_reducible apply below_al) | (with_reducible refine below_on ?_ (by assumption)))⟩

set_option maxRecDepth 100000 in
set_option maxHeartbeats 1600000 in
theorem HlcCompares_ltl (p l n l' n' : Int) (w : World) (h : cmpS p l n p l' n' = -1) (hx : l ≠ l') :
    Calls Try.prog 3 #[.agg #[.int .u64 p, .int .u32 l, .int .u8 n], .agg #[.int .u64 p, .int .u32 l', .int .u8 n']] w fun e w' => e = .returned (.bool true) ∧ Below w.heap.size w w' := by
  have h1 := fun w => compare_any p l n p l' n' w
  have h2 := fun w => compare_any p l' n' p l n w
  have h3 := fun w => refCompare_any p l n p l' n' w
  rw [cmpS_neg p l n p l' n'] at h2
  rw [h] at h1 h2 h3
  rw [show -(-1 : Int) = 1 from rfl] at h2
  have H1 := Lib.hid h1
  have H2 := Lib.hid h2
  have H3 := Lib.hid h3
  have hne : (l == l') = false := by simpa using hx
  clear h1 h2 h3 h
  have hw1 : IntKind.i64.wrap 1 = 1 := by decide
  have hw2 : IntKind.i64.wrap (-1) = -1 := by decide
  have hw3 : IntKind.i64.wrap 0 = 0 := by decide
  go_enter Try.func3, Try.ntmps3
  go_wp2_with (fail)
  go_region_held3 (fun W => W.cell? ⟨w.heap.size, 0, none⟩ = some (.int .u64 p) ∧ W.cell? ⟨w.heap.size, 1, none⟩ = some (.int .u32 l) ∧ W.cell? ⟨w.heap.size, 2, none⟩ = some (.int .u8 n) ∧ W.cell? ⟨w.heap.size + 1, 0, none⟩ = some (.int .u64 p) ∧ W.cell? ⟨w.heap.size + 1, 1, none⟩ = some (.int .u32 l') ∧ W.cell? ⟨w.heap.size + 1, 2, none⟩ = some (.int .u8 n')) (first | exact two_start p l n p l' n' w _ rfl | exact two_next p l n p l' n' w _ _ (by assumption) hb1) (first | (go_at_call 9; (with_reducible refine (fixed_any _).mono ?_); rintro e w1 ⟨rfl, hb1⟩) | (go_at_call 10; (with_reducible refine (H1.out _).mono ?_); rintro e w1 ⟨rfl, hb1⟩) | (go_at_call 10; (with_reducible refine (H2.out _).mono ?_); rintro e w1 ⟨rfl, hb1⟩) | (go_at_call 11; (with_reducible refine (H3.out _).mono ?_); rintro e w1 ⟨rfl, hb1⟩))
  go_wp2
  go_ret
  exact ⟨rfl, by repeat (first | (with_reducible exact Below.refl _ _) | (with_reducible apply below_dn) | (with_reducible apply Below.drew) | (with_reducible apply below_al) | (with_reducible refine below_on ?_ (by assumption)))⟩

set_option maxRecDepth 100000 in
set_option maxHeartbeats 1600000 in
theorem HlcCompares_ltn (p l n n' : Int) (w : World) (h : cmpS p l n p l n' = -1) (hx : n ≠ n') :
    Calls Try.prog 3 #[.agg #[.int .u64 p, .int .u32 l, .int .u8 n], .agg #[.int .u64 p, .int .u32 l, .int .u8 n']] w fun e w' => e = .returned (.bool true) ∧ Below w.heap.size w w' := by
  have h1 := fun w => compare_any p l n p l n' w
  have h2 := fun w => compare_any p l n' p l n w
  have h3 := fun w => refCompare_any p l n p l n' w
  rw [cmpS_neg p l n p l n'] at h2
  rw [h] at h1 h2 h3
  rw [show -(-1 : Int) = 1 from rfl] at h2
  have H1 := Lib.hid h1
  have H2 := Lib.hid h2
  have H3 := Lib.hid h3
  have hne : (n == n') = false := by simpa using hx
  clear h1 h2 h3 h
  have hw1 : IntKind.i64.wrap 1 = 1 := by decide
  have hw2 : IntKind.i64.wrap (-1) = -1 := by decide
  have hw3 : IntKind.i64.wrap 0 = 0 := by decide
  go_enter Try.func3, Try.ntmps3
  go_wp2_with (fail)
  go_region_held3 (fun W => W.cell? ⟨w.heap.size, 0, none⟩ = some (.int .u64 p) ∧ W.cell? ⟨w.heap.size, 1, none⟩ = some (.int .u32 l) ∧ W.cell? ⟨w.heap.size, 2, none⟩ = some (.int .u8 n) ∧ W.cell? ⟨w.heap.size + 1, 0, none⟩ = some (.int .u64 p) ∧ W.cell? ⟨w.heap.size + 1, 1, none⟩ = some (.int .u32 l) ∧ W.cell? ⟨w.heap.size + 1, 2, none⟩ = some (.int .u8 n')) (first | exact two_start p l n p l n' w _ rfl | exact two_next p l n p l n' w _ _ (by assumption) hb1) (first | (go_at_call 9; (with_reducible refine (fixed_any _).mono ?_); rintro e w1 ⟨rfl, hb1⟩) | (go_at_call 10; (with_reducible refine (H1.out _).mono ?_); rintro e w1 ⟨rfl, hb1⟩) | (go_at_call 10; (with_reducible refine (H2.out _).mono ?_); rintro e w1 ⟨rfl, hb1⟩) | (go_at_call 11; (with_reducible refine (H3.out _).mono ?_); rintro e w1 ⟨rfl, hb1⟩))
  go_wp2
  go_ret
  exact ⟨rfl, by repeat (first | (with_reducible exact Below.refl _ _) | (with_reducible apply below_dn) | (with_reducible apply Below.drew) | (with_reducible apply below_al) | (with_reducible refine below_on ?_ (by assumption)))⟩

set_option maxRecDepth 100000 in
set_option maxHeartbeats 1600000 in
theorem HlcCompares_gtp (p l n p' l' n' : Int) (w : World) (h : cmpS p l n p' l' n' = 1) (hx : p ≠ p') :
    Calls Try.prog 3 #[.agg #[.int .u64 p, .int .u32 l, .int .u8 n], .agg #[.int .u64 p', .int .u32 l', .int .u8 n']] w fun e w' => e = .returned (.bool true) ∧ Below w.heap.size w w' := by
  have h1 := fun w => compare_any p l n p' l' n' w
  have h2 := fun w => compare_any p' l' n' p l n w
  have h3 := fun w => refCompare_any p l n p' l' n' w
  rw [cmpS_neg p l n p' l' n'] at h2
  rw [h] at h1 h2 h3
  rw [show -(1 : Int) = -1 from rfl] at h2
  have H1 := Lib.hid h1
  have H2 := Lib.hid h2
  have H3 := Lib.hid h3
  have hne : (p == p') = false := by simpa using hx
  clear h1 h2 h3 h
  have hw1 : IntKind.i64.wrap 1 = 1 := by decide
  have hw2 : IntKind.i64.wrap (-1) = -1 := by decide
  have hw3 : IntKind.i64.wrap 0 = 0 := by decide
  go_enter Try.func3, Try.ntmps3
  go_wp2_with (fail)
  go_region_held3 (fun W => W.cell? ⟨w.heap.size, 0, none⟩ = some (.int .u64 p) ∧ W.cell? ⟨w.heap.size, 1, none⟩ = some (.int .u32 l) ∧ W.cell? ⟨w.heap.size, 2, none⟩ = some (.int .u8 n) ∧ W.cell? ⟨w.heap.size + 1, 0, none⟩ = some (.int .u64 p') ∧ W.cell? ⟨w.heap.size + 1, 1, none⟩ = some (.int .u32 l') ∧ W.cell? ⟨w.heap.size + 1, 2, none⟩ = some (.int .u8 n')) (first | exact two_start p l n p' l' n' w _ rfl | exact two_next p l n p' l' n' w _ _ (by assumption) hb1) (first | (go_at_call 9; (with_reducible refine (fixed_any _).mono ?_); rintro e w1 ⟨rfl, hb1⟩) | (go_at_call 10; (with_reducible refine (H1.out _).mono ?_); rintro e w1 ⟨rfl, hb1⟩) | (go_at_call 10; (with_reducible refine (H2.out _).mono ?_); rintro e w1 ⟨rfl, hb1⟩) | (go_at_call 11; (with_reducible refine (H3.out _).mono ?_); rintro e w1 ⟨rfl, hb1⟩))
  go_wp2
  go_ret
  exact ⟨rfl, by repeat (first | (with_reducible exact Below.refl _ _) | (with_reducible apply below_dn) | (with_reducible apply Below.drew) | (with_reducible apply below_al) | (with_reducible refine below_on ?_ (by assumption)))⟩

set_option maxRecDepth 100000 in
set_option maxHeartbeats 1600000 in
theorem HlcCompares_gtl (p l n l' n' : Int) (w : World) (h : cmpS p l n p l' n' = 1) (hx : l ≠ l') :
    Calls Try.prog 3 #[.agg #[.int .u64 p, .int .u32 l, .int .u8 n], .agg #[.int .u64 p, .int .u32 l', .int .u8 n']] w fun e w' => e = .returned (.bool true) ∧ Below w.heap.size w w' := by
  have h1 := fun w => compare_any p l n p l' n' w
  have h2 := fun w => compare_any p l' n' p l n w
  have h3 := fun w => refCompare_any p l n p l' n' w
  rw [cmpS_neg p l n p l' n'] at h2
  rw [h] at h1 h2 h3
  rw [show -(1 : Int) = -1 from rfl] at h2
  have H1 := Lib.hid h1
  have H2 := Lib.hid h2
  have H3 := Lib.hid h3
  have hne : (l == l') = false := by simpa using hx
  clear h1 h2 h3 h
  have hw1 : IntKind.i64.wrap 1 = 1 := by decide
  have hw2 : IntKind.i64.wrap (-1) = -1 := by decide
  have hw3 : IntKind.i64.wrap 0 = 0 := by decide
  go_enter Try.func3, Try.ntmps3
  go_wp2_with (fail)
  go_region_held3 (fun W => W.cell? ⟨w.heap.size, 0, none⟩ = some (.int .u64 p) ∧ W.cell? ⟨w.heap.size, 1, none⟩ = some (.int .u32 l) ∧ W.cell? ⟨w.heap.size, 2, none⟩ = some (.int .u8 n) ∧ W.cell? ⟨w.heap.size + 1, 0, none⟩ = some (.int .u64 p) ∧ W.cell? ⟨w.heap.size + 1, 1, none⟩ = some (.int .u32 l') ∧ W.cell? ⟨w.heap.size + 1, 2, none⟩ = some (.int .u8 n')) (first | exact two_start p l n p l' n' w _ rfl | exact two_next p l n p l' n' w _ _ (by assumption) hb1) (first | (go_at_call 9; (with_reducible refine (fixed_any _).mono ?_); rintro e w1 ⟨rfl, hb1⟩) | (go_at_call 10; (with_reducible refine (H1.out _).mono ?_); rintro e w1 ⟨rfl, hb1⟩) | (go_at_call 10; (with_reducible refine (H2.out _).mono ?_); rintro e w1 ⟨rfl, hb1⟩) | (go_at_call 11; (with_reducible refine (H3.out _).mono ?_); rintro e w1 ⟨rfl, hb1⟩))
  go_wp2
  go_ret
  exact ⟨rfl, by repeat (first | (with_reducible exact Below.refl _ _) | (with_reducible apply below_dn) | (with_reducible apply Below.drew) | (with_reducible apply below_al) | (with_reducible refine below_on ?_ (by assumption)))⟩

set_option maxRecDepth 100000 in
set_option maxHeartbeats 1600000 in
theorem HlcCompares_gtn (p l n n' : Int) (w : World) (h : cmpS p l n p l n' = 1) (hx : n ≠ n') :
    Calls Try.prog 3 #[.agg #[.int .u64 p, .int .u32 l, .int .u8 n], .agg #[.int .u64 p, .int .u32 l, .int .u8 n']] w fun e w' => e = .returned (.bool true) ∧ Below w.heap.size w w' := by
  have h1 := fun w => compare_any p l n p l n' w
  have h2 := fun w => compare_any p l n' p l n w
  have h3 := fun w => refCompare_any p l n p l n' w
  rw [cmpS_neg p l n p l n'] at h2
  rw [h] at h1 h2 h3
  rw [show -(1 : Int) = -1 from rfl] at h2
  have H1 := Lib.hid h1
  have H2 := Lib.hid h2
  have H3 := Lib.hid h3
  have hne : (n == n') = false := by simpa using hx
  clear h1 h2 h3 h
  have hw1 : IntKind.i64.wrap 1 = 1 := by decide
  have hw2 : IntKind.i64.wrap (-1) = -1 := by decide
  have hw3 : IntKind.i64.wrap 0 = 0 := by decide
  go_enter Try.func3, Try.ntmps3
  go_wp2_with (fail)
  go_region_held3 (fun W => W.cell? ⟨w.heap.size, 0, none⟩ = some (.int .u64 p) ∧ W.cell? ⟨w.heap.size, 1, none⟩ = some (.int .u32 l) ∧ W.cell? ⟨w.heap.size, 2, none⟩ = some (.int .u8 n) ∧ W.cell? ⟨w.heap.size + 1, 0, none⟩ = some (.int .u64 p) ∧ W.cell? ⟨w.heap.size + 1, 1, none⟩ = some (.int .u32 l) ∧ W.cell? ⟨w.heap.size + 1, 2, none⟩ = some (.int .u8 n')) (first | exact two_start p l n p l n' w _ rfl | exact two_next p l n p l n' w _ _ (by assumption) hb1) (first | (go_at_call 9; (with_reducible refine (fixed_any _).mono ?_); rintro e w1 ⟨rfl, hb1⟩) | (go_at_call 10; (with_reducible refine (H1.out _).mono ?_); rintro e w1 ⟨rfl, hb1⟩) | (go_at_call 10; (with_reducible refine (H2.out _).mono ?_); rintro e w1 ⟨rfl, hb1⟩) | (go_at_call 11; (with_reducible refine (H3.out _).mono ?_); rintro e w1 ⟨rfl, hb1⟩))
  go_wp2
  go_ret
  exact ⟨rfl, by repeat (first | (with_reducible exact Below.refl _ _) | (with_reducible apply below_dn) | (with_reducible apply Below.drew) | (with_reducible apply below_al) | (with_reducible refine below_on ?_ (by assumption)))⟩

set_option maxRecDepth 100000 in
set_option maxHeartbeats 1600000 in
theorem HlcCompares_eqe (p l n : Int) (w : World) (h : cmpS p l n p l n = 0) :
    Calls Try.prog 3 #[.agg #[.int .u64 p, .int .u32 l, .int .u8 n], .agg #[.int .u64 p, .int .u32 l, .int .u8 n]] w fun e w' => e = .returned (.bool true) ∧ Below w.heap.size w w' := by
  have h1 := fun w => compare_any p l n p l n w
  have h2 := fun w => compare_any p l n p l n w
  have h3 := fun w => refCompare_any p l n p l n w
  rw [cmpS_neg p l n p l n] at h2
  rw [h] at h1 h2 h3
  rw [Int.neg_zero] at h2
  have H1 := Lib.hid h1
  have H2 := Lib.hid h2
  have H3 := Lib.hid h3
  clear h1 h2 h3 h
  have hw1 : IntKind.i64.wrap 1 = 1 := by decide
  have hw2 : IntKind.i64.wrap (-1) = -1 := by decide
  have hw3 : IntKind.i64.wrap 0 = 0 := by decide
  go_enter Try.func3, Try.ntmps3
  go_wp2_with (fail)
  go_region_held3 (fun W => W.cell? ⟨w.heap.size, 0, none⟩ = some (.int .u64 p) ∧ W.cell? ⟨w.heap.size, 1, none⟩ = some (.int .u32 l) ∧ W.cell? ⟨w.heap.size, 2, none⟩ = some (.int .u8 n) ∧ W.cell? ⟨w.heap.size + 1, 0, none⟩ = some (.int .u64 p) ∧ W.cell? ⟨w.heap.size + 1, 1, none⟩ = some (.int .u32 l) ∧ W.cell? ⟨w.heap.size + 1, 2, none⟩ = some (.int .u8 n)) (first | exact two_start p l n p l n w _ rfl | exact two_next p l n p l n w _ _ (by assumption) hb1) (first | (go_at_call 9; (with_reducible refine (fixed_any _).mono ?_); rintro e w1 ⟨rfl, hb1⟩) | (go_at_call 10; (with_reducible refine (H1.out _).mono ?_); rintro e w1 ⟨rfl, hb1⟩) | (go_at_call 10; (with_reducible refine (H2.out _).mono ?_); rintro e w1 ⟨rfl, hb1⟩) | (go_at_call 11; (with_reducible refine (H3.out _).mono ?_); rintro e w1 ⟨rfl, hb1⟩))
  go_wp2
  go_ret
  exact ⟨rfl, by repeat (first | (with_reducible exact Below.refl _ _) | (with_reducible apply below_dn) | (with_reducible apply Below.drew) | (with_reducible apply below_al) | (with_reducible refine below_on ?_ (by assumption)))⟩

theorem HlcCompares_walk (p l n p' l' n' : Int) (w : World) :
    Calls Try.prog 3 #[.agg #[.int .u64 p, .int .u32 l, .int .u8 n], .agg #[.int .u64 p', .int .u32 l', .int .u8 n']] w fun e w' => e = .returned (.bool true) ∧ Below w.heap.size w w' := by
  rcases cmpS_three p l n p' l' n' with h | h | h
  · by_cases hp : p = p'
    · subst hp
      by_cases hl : l = l'
      · subst hl
        by_cases hn : n = n'
        · subst hn; rw [cmpS_zero.2 ⟨rfl, rfl, rfl⟩] at h; omega
        · exact HlcCompares_ltn p l n n' w h hn
      · exact HlcCompares_ltl p l n l' n' w h hl
    · exact HlcCompares_ltp p l n p' l' n' w h hp
  · obtain ⟨rfl, rfl, rfl⟩ := cmpS_zero.1 h
    exact HlcCompares_eqe p l n w h
  · by_cases hp : p = p'
    · subst hp
      by_cases hl : l = l'
      · subst hl
        by_cases hn : n = n'
        · subst hn; rw [cmpS_zero.2 ⟨rfl, rfl, rfl⟩] at h; omega
        · exact HlcCompares_gtn p l n n' w h hn
      · exact HlcCompares_gtl p l n l' n' w h hl
    · exact HlcCompares_gtp p l n p' l' n' w h hp
end Go.Proofs.Ytcidckcdfacplaa.Hlc

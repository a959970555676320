/- HlcNil answers true: a nil clock answers nothing: the walk (own text). -/
import Derived.Test.YtcidckcdfacplaaHlcFixed
namespace Go.Proofs.Ytcidckcdfacplaa.Hlc
open Go.RowKit Go.Proofs.Ytcidckcdfacplaa.Mem
set_option linter.unusedVariables false
set_option linter.unusedSimpArgs false

set_option maxHeartbeats 400000 in
theorem nil_pass (k : Int) (w : World) : Calls Try.prog 19 #[.pointer none, .int .i64 k] w fun e w' => e = .returned (.tuple #[]) ∧ Below w.heap.size w w' := by
  go_enter Try.func19, Try.ntmps19
  go_wp2
  go_end0
  exact ⟨rfl, by repeat (first | (with_reducible exact Below.refl _ _) | (with_reducible assumption) | (with_reducible apply below_dn) | (with_reducible apply below_al) | (with_reducible apply Below.drew) | (with_reducible refine below_new ?_ (by omega)) | (with_reducible refine below_on ?_ (by assumption)))⟩

set_option maxHeartbeats 400000 in
theorem nil_now  (w : World) : Calls Try.prog 16 #[.pointer none] w fun e w' => e = .returned (.tuple #[.agg #[.int .u64 0, .int .u32 0, .int .u8 0], .int .i64 1]) ∧ Below w.heap.size w w' := by
  go_enter Try.func16, Try.ntmps16
  go_wp2
  go_returns
  exact ⟨rfl, by repeat (first | (with_reducible exact Below.refl _ _) | (with_reducible assumption) | (with_reducible apply below_dn) | (with_reducible apply below_al) | (with_reducible apply Below.drew) | (with_reducible refine below_new ?_ (by omega)) | (with_reducible refine below_on ?_ (by assumption)))⟩

set_option maxHeartbeats 400000 in
theorem nil_time  (w : World) : Calls Try.prog 23 #[.pointer none] w fun e w' => e = .returned (.int .u64 0) ∧ Below w.heap.size w w' := by
  go_enter Try.func23, Try.ntmps23
  go_wp2
  go_ret
  exact ⟨rfl, by repeat (first | (with_reducible exact Below.refl _ _) | (with_reducible assumption) | (with_reducible apply below_dn) | (with_reducible apply below_al) | (with_reducible apply Below.drew) | (with_reducible refine below_new ?_ (by omega)) | (with_reducible refine below_on ?_ (by assumption)))⟩

set_option maxHeartbeats 400000 in
theorem nil_last  (w : World) : Calls Try.prog 15 #[.pointer none] w fun e w' => e = .returned (.agg #[.int .u64 0, .int .u32 0, .int .u8 0]) ∧ Below w.heap.size w w' := by
  go_enter Try.func15, Try.ntmps15
  go_wp2
  go_returns
  exact ⟨rfl, by repeat (first | (with_reducible exact Below.refl _ _) | (with_reducible assumption) | (with_reducible apply below_dn) | (with_reducible apply below_al) | (with_reducible apply Below.drew) | (with_reducible refine below_new ?_ (by omega)) | (with_reducible refine below_on ?_ (by assumption)))⟩

set_option maxHeartbeats 400000 in
theorem nil_see (p l n : Int) (w : World) : Calls Try.prog 18 #[.pointer none, .agg #[.int .u64 p, .int .u32 l, .int .u8 n]] w fun e w' => e = .returned (.int .i64 1) ∧ Below w.heap.size w w' := by
  go_enter Try.func18, Try.ntmps18
  go_wp2
  go_ret
  exact ⟨rfl, by repeat (first | (with_reducible exact Below.refl _ _) | (with_reducible assumption) | (with_reducible apply below_dn) | (with_reducible apply below_al) | (with_reducible apply Below.drew) | (with_reducible refine below_new ?_ (by omega)) | (with_reducible refine below_on ?_ (by assumption)))⟩

theorem pair_start (x y : Nat) (p l n : Int) (W : World) (h1 : At W x #[.int .u64 p, .int .u32 l, .int .u8 n] 25) (h2 : At W y #[.int .u64 0, .int .u32 0, .int .u8 0] 25) : W.cell? ⟨x, 0, none⟩ = some (.int .u64 p) ∧ W.cell? ⟨x, 1, none⟩ = some (.int .u32 l) ∧ W.cell? ⟨x, 2, none⟩ = some (.int .u8 n) ∧ W.cell? ⟨y, 0, none⟩ = some (.int .u64 0) ∧ W.cell? ⟨y, 1, none⟩ = some (.int .u32 0) ∧ W.cell? ⟨y, 2, none⟩ = some (.int .u8 0) :=
  ⟨(at3 h1).1, (at3 h1).2.1, (at3 h1).2.2.1, (at3 h2).1, (at3 h2).2.1, (at3 h2).2.2.1⟩
theorem pair_next (x y : Nat) (p l n : Int) (W0 W : World) (h : W0.cell? ⟨x, 0, none⟩ = some (.int .u64 p) ∧ W0.cell? ⟨x, 1, none⟩ = some (.int .u32 l) ∧ W0.cell? ⟨x, 2, none⟩ = some (.int .u8 n) ∧ W0.cell? ⟨y, 0, none⟩ = some (.int .u64 0) ∧ W0.cell? ⟨y, 1, none⟩ = some (.int .u32 0) ∧ W0.cell? ⟨y, 2, none⟩ = some (.int .u8 0)) (k : Below W0.heap.size W0 W) : W.cell? ⟨x, 0, none⟩ = some (.int .u64 p) ∧ W.cell? ⟨x, 1, none⟩ = some (.int .u32 l) ∧ W.cell? ⟨x, 2, none⟩ = some (.int .u8 n) ∧ W.cell? ⟨y, 0, none⟩ = some (.int .u64 0) ∧ W.cell? ⟨y, 1, none⟩ = some (.int .u32 0) ∧ W.cell? ⟨y, 2, none⟩ = some (.int .u8 0) := by
  obtain ⟨e0, e1, e2, e3, e4, e5⟩ := h
  have z0 := World.block_lt_of_cell? W0 _ e0
  have z1 := World.block_lt_of_cell? W0 _ e3
  obtain ⟨hc, hf⟩ := bcell k
  exact ⟨by rw [hc _ _ z0, e0], by rw [hc _ _ z0, e1], by rw [hc _ _ z0, e2], by rw [hc _ _ z1, e3], by rw [hc _ _ z1, e4], by rw [hc _ _ z1, e5]⟩
set_option maxRecDepth 100000 in
set_option maxHeartbeats 800000 in
theorem HlcNil_walk (k p l n : Int) (w : World) :
    Calls Try.prog 8 #[.int .i64 k, .agg #[.int .u64 p, .int .u32 l, .int .u8 n]] w fun e w' => e = .returned (.bool true) ∧ Below w.heap.size w w' := by
  go_enter Try.func8, Try.ntmps8
  go_wp2_with (fail)
  refine (nil_pass _ _).mono ?_
  rintro e w1 ⟨rfl, h1⟩
  have a1 := at_below (at_new w #[.int .u64 p, .int .u32 l, .int .u8 n] 25) h1
  go_wp2_with (fail)
  refine (nil_now _).mono ?_
  rintro e w2 ⟨rfl, h2⟩
  have a2 := at_below a1 h2
  have b2 := at_new w2 #[.int .u64 0, .int .u32 0, .int .u8 0] 25
  have a3 := at_alloc (o := .cells #[.int .u64 0, .int .u32 0, .int .u8 0] 25) a2
  have HA := Lib.hid a3
  have HB := Lib.hid b2
  clear a1 a2 a3 b2
  go_wp2_with (fail)
  refine (fixed_any _).mono ?_
  rintro e w3 ⟨rfl, h3⟩
  go_wp2_with (fail)
  refine (nil_time _).mono ?_
  rintro e w4 ⟨rfl, h4⟩
  go_wp2_with (fail)
  refine (nil_last _).mono ?_
  rintro e w5 ⟨rfl, h5⟩
  have a5 := at_below (at_below (at_below HA.out h3) h4) h5
  have b5 := at_below (at_below (at_below HB.out h3) h4) h5
  obtain ⟨x0, x1, x2, x3, x4, x5⟩ := at3 a5
  obtain ⟨y0, y1, y2, y3, y4, y5⟩ := at3 b5
  clear a5 b5 x3 x4 x5 y3 y4 y5
  go_wp2_with (fail)
  refine (nil_see p l n _).mono ?_
  rintro e w6 ⟨rfl, h6⟩
  go_wp2_with (fail)
  go_ret
  exact ⟨rfl, by repeat (first | (with_reducible exact Below.refl _ _) | (with_reducible assumption) | (with_reducible apply below_dn) | (with_reducible apply below_al) | (with_reducible apply Below.drew) | (with_reducible refine below_new ?_ (by omega)) | (with_reducible refine below_on ?_ (by assumption)))⟩
end Go.Proofs.Ytcidckcdfacplaa.Hlc

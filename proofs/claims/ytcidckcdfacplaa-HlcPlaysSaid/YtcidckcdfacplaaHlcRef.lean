/- The reference's clock: what each of its functions answers; and New of both (own text). -/
import Derived.Test.YtcidckcdfacplaaHlcClock
namespace Go.Proofs.Ytcidckcdfacplaa.Hlc
open Go.RowKit Go.Proofs.Ytcidckcdfacplaa.Mem
set_option linter.unusedVariables false
set_option linter.unusedSimpArgs false

/-- The reference's clock as a value. -/
def refV (c : Clk) : Value := .agg #[.int .u8 c.node, .int .u64 c.time, .int .u64 c.drift, .bool c.rest, .int .u64 c.start, .int .u64 c.p, .int .u32 c.l, .int .u8 c.n]
def stV (s : Int × Int × Int) : Value := .agg #[.int .u64 s.1, .int .u32 s.2.1, .int .u8 s.2.2]
/-- A clock as New makes it. -/
def newC (node time drift : Int) (rest : Bool) : Clk := ⟨node, time, drift, time + drift, rest, 0, 0, 0⟩
def mayC (node time drift : Int) : Prop := node < 64 ∧ time ≤ 281474976710655 ∧ 0 ≤ drift ∧ drift ≤ 1000
theorem good_new {node time drift : Int} {rest : Bool} (h : mayC node time drift) (h0 : 0 ≤ node) (h1 : 0 ≤ time) : Good (newC node time drift rest) := by
  obtain ⟨a, b, c, d⟩ := h
  constructor <;> simp only [newC] <;> omega

set_option maxHeartbeats 400000 in
theorem refNew_ok (node time drift : Int) (rest : Bool) (w : World) (h0 : 0 ≤ node) (h1 : node < 64) (h2 : 0 ≤ time) (h3 : time ≤ 281474976710655) (h4 : 0 ≤ drift) (h5 : drift ≤ 1000) :
    Calls Try.prog 13 #[.int .u8 node, .int .u64 time, .int .i64 drift, .bool rest] w fun e w' => e = .returned (.tuple #[.agg #[.int .u8 node, .int .u64 time, .int .u64 drift, .bool rest, .int .u64 (time + drift), .int .u64 0, .int .u32 0, .int .u8 0], .int .i64 0]) ∧ Below w.heap.size w w' := by
  have c0 : decide (63 < node) = false := by simp; omega
  have c57 : decide (281474976710655 < time) = false := by simp; omega
  have c128 : decide (drift < 0) = false := by simp; omega
  have c187 : decide (1000 < drift) = false := by simp; omega
  go_enter Try.func13, Try.ntmps13
  go_wp2
  go_returns
  exact ⟨rfl, by repeat (first | (with_reducible exact Below.refl _ _) | (with_reducible assumption) | (with_reducible apply below_dn) | (with_reducible apply below_al) | (with_reducible apply Below.drew) | (with_reducible refine below_new ?_ (by omega)) | (with_reducible refine below_on ?_ hb1))⟩

set_option maxHeartbeats 400000 in
theorem refNew_1 (node time drift : Int) (rest : Bool) (w : World) (h1 : 64 ≤ node) :
    Calls Try.prog 13 #[.int .u8 node, .int .u64 time, .int .i64 drift, .bool rest] w fun e w' => e = .returned (.tuple #[.agg #[.int .u8 0, .int .u64 0, .int .u64 0, .bool false, .int .u64 0, .int .u64 0, .int .u32 0, .int .u8 0], .int .i64 1]) ∧ Below w.heap.size w w' := by
  have c0 : decide (63 < node) = true := by simp; omega
  go_enter Try.func13, Try.ntmps13
  go_wp2
  go_returns
  exact ⟨rfl, by repeat (first | (with_reducible exact Below.refl _ _) | (with_reducible assumption) | (with_reducible apply below_dn) | (with_reducible apply below_al) | (with_reducible apply Below.drew) | (with_reducible refine below_new ?_ (by omega)) | (with_reducible refine below_on ?_ hb1))⟩

set_option maxHeartbeats 400000 in
theorem refNew_2 (node time drift : Int) (rest : Bool) (w : World) (h1 : node < 64) (h2 : 281474976710655 < time) :
    Calls Try.prog 13 #[.int .u8 node, .int .u64 time, .int .i64 drift, .bool rest] w fun e w' => e = .returned (.tuple #[.agg #[.int .u8 0, .int .u64 0, .int .u64 0, .bool false, .int .u64 0, .int .u64 0, .int .u32 0, .int .u8 0], .int .i64 1]) ∧ Below w.heap.size w w' := by
  have c0 : decide (63 < node) = false := by simp; omega
  have c57 : decide (281474976710655 < time) = true := by simp; omega
  go_enter Try.func13, Try.ntmps13
  go_wp2
  go_returns
  exact ⟨rfl, by repeat (first | (with_reducible exact Below.refl _ _) | (with_reducible assumption) | (with_reducible apply below_dn) | (with_reducible apply below_al) | (with_reducible apply Below.drew) | (with_reducible refine below_new ?_ (by omega)) | (with_reducible refine below_on ?_ hb1))⟩

set_option maxHeartbeats 400000 in
theorem refNew_3 (node time drift : Int) (rest : Bool) (w : World) (h1 : node < 64) (h2 : time ≤ 281474976710655) (h3 : drift < 0) :
    Calls Try.prog 13 #[.int .u8 node, .int .u64 time, .int .i64 drift, .bool rest] w fun e w' => e = .returned (.tuple #[.agg #[.int .u8 0, .int .u64 0, .int .u64 0, .bool false, .int .u64 0, .int .u64 0, .int .u32 0, .int .u8 0], .int .i64 1]) ∧ Below w.heap.size w w' := by
  have c0 : decide (63 < node) = false := by simp; omega
  have c57 : decide (281474976710655 < time) = false := by simp; omega
  have c128 : decide (drift < 0) = true := by simp; omega
  go_enter Try.func13, Try.ntmps13
  go_wp2
  go_returns
  exact ⟨rfl, by repeat (first | (with_reducible exact Below.refl _ _) | (with_reducible assumption) | (with_reducible apply below_dn) | (with_reducible apply below_al) | (with_reducible apply Below.drew) | (with_reducible refine below_new ?_ (by omega)) | (with_reducible refine below_on ?_ hb1))⟩

set_option maxHeartbeats 400000 in
theorem refNew_4 (node time drift : Int) (rest : Bool) (w : World) (h1 : node < 64) (h2 : time ≤ 281474976710655) (h3 : 0 ≤ drift) (h4 : 1000 < drift) :
    Calls Try.prog 13 #[.int .u8 node, .int .u64 time, .int .i64 drift, .bool rest] w fun e w' => e = .returned (.tuple #[.agg #[.int .u8 0, .int .u64 0, .int .u64 0, .bool false, .int .u64 0, .int .u64 0, .int .u32 0, .int .u8 0], .int .i64 1]) ∧ Below w.heap.size w w' := by
  have c0 : decide (63 < node) = false := by simp; omega
  have c57 : decide (281474976710655 < time) = false := by simp; omega
  have c128 : decide (drift < 0) = false := by simp; omega
  have c187 : decide (1000 < drift) = true := by simp; omega
  go_enter Try.func13, Try.ntmps13
  go_wp2
  go_returns
  exact ⟨rfl, by repeat (first | (with_reducible exact Below.refl _ _) | (with_reducible assumption) | (with_reducible apply below_dn) | (with_reducible apply below_al) | (with_reducible apply Below.drew) | (with_reducible refine below_new ?_ (by omega)) | (with_reducible refine below_on ?_ hb1))⟩

theorem refNew_bad (node time drift : Int) (rest : Bool) (w : World) (h : ¬ mayC node time drift) :
    Calls Try.prog 13 #[.int .u8 node, .int .u64 time, .int .i64 drift, .bool rest] w fun e w' => e = .returned (.tuple #[.agg #[.int .u8 0, .int .u64 0, .int .u64 0, .bool false, .int .u64 0, .int .u64 0, .int .u32 0, .int .u8 0], .int .i64 1]) ∧ Below w.heap.size w w' := by
  unfold mayC at h
  by_cases h1 : node < 64
  · by_cases h2 : time ≤ 281474976710655
    · by_cases h3 : 0 ≤ drift
      · exact refNew_4 node time drift rest w h1 h2 h3 (by omega)
      · exact refNew_3 node time drift rest w h1 h2 (by omega)
    · exact refNew_2 node time drift rest w h1 (by omega)
  · exact refNew_1 node time drift rest w (by omega)

set_option maxHeartbeats 400000 in
theorem progNew_ok (node time drift : Int) (rest : Bool) (w : World) (h0 : 0 ≤ node) (h1 : node < 64) (h2 : 0 ≤ time) (h3 : time ≤ 281474976710655) (h4 : 0 ≤ drift) (h5 : drift ≤ 1000) :
    Calls Try.prog 12 #[.int .u8 node, .int .u64 time, .int .i64 drift, .bool rest] w fun e w' => e = .returned (.tuple #[.pointer (some ⟨w.heap.size, 0, none⟩), .int .i64 0]) ∧ ClkAt w' w.heap.size (newC node time drift rest) ∧ Below w.heap.size w w' ∧ w.heap.size < w'.heap.size := by
  have c0 : decide (64 ≤ node) = false := by simp; omega
  have c57 : decide (281474976710655 < time) = false := by simp; omega
  have c128 : decide (drift < 0) = false := by simp; omega
  have c187 : decide (1000 < drift) = false := by simp; omega
  go_enter Try.func12, Try.ntmps12
  go_wp2
  go_ret2
  exact ⟨rfl, at_new _ _ _, by repeat (first | (with_reducible exact Below.refl _ _) | (with_reducible assumption) | (with_reducible apply below_dn) | (with_reducible apply below_al) | (with_reducible apply Below.drew) | (with_reducible refine below_new ?_ (by omega)) | (with_reducible refine below_on ?_ hb1)), by simp⟩

set_option maxHeartbeats 400000 in
theorem progNew_1 (node time drift : Int) (rest : Bool) (w : World) (h1 : 64 ≤ node) :
    Calls Try.prog 12 #[.int .u8 node, .int .u64 time, .int .i64 drift, .bool rest] w fun e w' => e = .returned (.tuple #[.pointer none, .int .i64 1]) ∧ Below w.heap.size w w' := by
  have c0 : decide (64 ≤ node) = true := by simp; omega
  go_enter Try.func12, Try.ntmps12
  go_wp2
  go_ret2
  exact ⟨rfl, by repeat (first | (with_reducible exact Below.refl _ _) | (with_reducible assumption) | (with_reducible apply below_dn) | (with_reducible apply below_al) | (with_reducible apply Below.drew) | (with_reducible refine below_new ?_ (by omega)) | (with_reducible refine below_on ?_ hb1))⟩

set_option maxHeartbeats 400000 in
theorem progNew_2 (node time drift : Int) (rest : Bool) (w : World) (h1 : node < 64) (h2 : 281474976710655 < time) :
    Calls Try.prog 12 #[.int .u8 node, .int .u64 time, .int .i64 drift, .bool rest] w fun e w' => e = .returned (.tuple #[.pointer none, .int .i64 1]) ∧ Below w.heap.size w w' := by
  have c0 : decide (64 ≤ node) = false := by simp; omega
  have c57 : decide (281474976710655 < time) = true := by simp; omega
  go_enter Try.func12, Try.ntmps12
  go_wp2
  go_ret2
  exact ⟨rfl, by repeat (first | (with_reducible exact Below.refl _ _) | (with_reducible assumption) | (with_reducible apply below_dn) | (with_reducible apply below_al) | (with_reducible apply Below.drew) | (with_reducible refine below_new ?_ (by omega)) | (with_reducible refine below_on ?_ hb1))⟩

set_option maxHeartbeats 400000 in
theorem progNew_3 (node time drift : Int) (rest : Bool) (w : World) (h1 : node < 64) (h2 : time ≤ 281474976710655) (h3 : drift < 0) :
    Calls Try.prog 12 #[.int .u8 node, .int .u64 time, .int .i64 drift, .bool rest] w fun e w' => e = .returned (.tuple #[.pointer none, .int .i64 1]) ∧ Below w.heap.size w w' := by
  have c0 : decide (64 ≤ node) = false := by simp; omega
  have c57 : decide (281474976710655 < time) = false := by simp; omega
  have c128 : decide (drift < 0) = true := by simp; omega
  go_enter Try.func12, Try.ntmps12
  go_wp2
  go_ret2
  exact ⟨rfl, by repeat (first | (with_reducible exact Below.refl _ _) | (with_reducible assumption) | (with_reducible apply below_dn) | (with_reducible apply below_al) | (with_reducible apply Below.drew) | (with_reducible refine below_new ?_ (by omega)) | (with_reducible refine below_on ?_ hb1))⟩

set_option maxHeartbeats 400000 in
theorem progNew_4 (node time drift : Int) (rest : Bool) (w : World) (h1 : node < 64) (h2 : time ≤ 281474976710655) (h3 : 0 ≤ drift) (h4 : 1000 < drift) :
    Calls Try.prog 12 #[.int .u8 node, .int .u64 time, .int .i64 drift, .bool rest] w fun e w' => e = .returned (.tuple #[.pointer none, .int .i64 1]) ∧ Below w.heap.size w w' := by
  have c0 : decide (64 ≤ node) = false := by simp; omega
  have c57 : decide (281474976710655 < time) = false := by simp; omega
  have c128 : decide (drift < 0) = false := by simp; omega
  have c187 : decide (1000 < drift) = true := by simp; omega
  go_enter Try.func12, Try.ntmps12
  go_wp2
  go_ret2
  exact ⟨rfl, by repeat (first | (with_reducible exact Below.refl _ _) | (with_reducible assumption) | (with_reducible apply below_dn) | (with_reducible apply below_al) | (with_reducible apply Below.drew) | (with_reducible refine below_new ?_ (by omega)) | (with_reducible refine below_on ?_ hb1))⟩

theorem progNew_bad (node time drift : Int) (rest : Bool) (w : World) (h : ¬ mayC node time drift) :
    Calls Try.prog 12 #[.int .u8 node, .int .u64 time, .int .i64 drift, .bool rest] w fun e w' => e = .returned (.tuple #[.pointer none, .int .i64 1]) ∧ Below w.heap.size w w' := by
  unfold mayC at h
  by_cases h1 : node < 64
  · by_cases h2 : time ≤ 281474976710655
    · by_cases h3 : 0 ≤ drift
      · exact progNew_4 node time drift rest w h1 h2 h3 (by omega)
      · exact progNew_3 node time drift rest w h1 h2 (by omega)
    · exact progNew_2 node time drift rest w h1 (by omega)
  · exact progNew_1 node time drift rest w (by omega)

set_option maxHeartbeats 800000 in
theorem refNow_rest (c : Clk)  (w : World) (hg : Good c) (hr : c.rest = true) (ht : c.time ≤ c.start) :
    Calls Try.prog 20 #[.agg #[.int .u8 c.node, .int .u64 c.time, .int .u64 c.drift, .bool c.rest, .int .u64 c.start, .int .u64 c.p, .int .u32 c.l, .int .u8 c.n]] w fun e w' => e = .returned (.tuple #[stV (0, 0, 0), .int .i64 10, refV c]) ∧ Below w.heap.size w w' := by
  obtain ⟨node, time, drift, start, rest, p, l, n⟩ := c
  (try simp only [] at *)
  obtain ⟨g1, g2, g3, g4, g5, g6, g7, g8, g9, g10, g11, g12, g13, g14⟩ := hg
  (try simp only [] at *)
  subst hr
  have c1 : decide (time ≤ start) = true := by simpa using ht
  go_enter Try.func20, Try.ntmps20
  go_wp2
  go_region
  go_wp2
  go_returns
  exact ⟨rfl, by repeat (first | (with_reducible exact Below.refl _ _) | (with_reducible assumption) | (with_reducible apply below_dn) | (with_reducible apply below_al) | (with_reducible apply Below.drew) | (with_reducible refine below_new ?_ (by omega)) | (with_reducible refine below_on ?_ hb1))⟩

set_option maxHeartbeats 800000 in
theorem refNow_first (c : Clk)  (w : World) (hg : Good c) (hr : c.rest = false) (ht : c.p < c.time) :
    Calls Try.prog 20 #[.agg #[.int .u8 c.node, .int .u64 c.time, .int .u64 c.drift, .bool c.rest, .int .u64 c.start, .int .u64 c.p, .int .u32 c.l, .int .u8 c.n]] w fun e w' => e = .returned (.tuple #[stV (c.time, 0, c.node), .int .i64 0, refV { c with p := c.time, l := 0, n := c.node }]) ∧ Below w.heap.size w w' := by
  obtain ⟨node, time, drift, start, rest, p, l, n⟩ := c
  (try simp only [] at *)
  obtain ⟨g1, g2, g3, g4, g5, g6, g7, g8, g9, g10, g11, g12, g13, g14⟩ := hg
  (try simp only [] at *)
  subst hr
  have c1 : decide (p < time) = true := by simpa using ht
  go_enter Try.func20, Try.ntmps20
  go_wp2
  go_region
  go_wp2
  go_returns
  exact ⟨rfl, by repeat (first | (with_reducible exact Below.refl _ _) | (with_reducible assumption) | (with_reducible apply below_dn) | (with_reducible apply below_al) | (with_reducible apply Below.drew) | (with_reducible refine below_new ?_ (by omega)) | (with_reducible refine below_on ?_ hb1))⟩

set_option maxHeartbeats 800000 in
theorem refNow_full (c : Clk)  (w : World) (hg : Good c) (hr : c.rest = false) (ht : c.time ≤ c.p) (hl : c.l = 4294967295) :
    Calls Try.prog 20 #[.agg #[.int .u8 c.node, .int .u64 c.time, .int .u64 c.drift, .bool c.rest, .int .u64 c.start, .int .u64 c.p, .int .u32 c.l, .int .u8 c.n]] w fun e w' => e = .returned (.tuple #[stV (0, 0, 0), .int .i64 6, refV c]) ∧ Below w.heap.size w w' := by
  obtain ⟨node, time, drift, start, rest, p, l, n⟩ := c
  (try simp only [] at *)
  obtain ⟨g1, g2, g3, g4, g5, g6, g7, g8, g9, g10, g11, g12, g13, g14⟩ := hg
  (try simp only [] at *)
  subst hr
  have c1 : decide (p < time) = false := by simpa using ht
  subst hl
  go_enter Try.func20, Try.ntmps20
  go_wp2
  go_region
  go_wp2
  go_returns
  exact ⟨rfl, by repeat (first | (with_reducible exact Below.refl _ _) | (with_reducible assumption) | (with_reducible apply below_dn) | (with_reducible apply below_al) | (with_reducible apply Below.drew) | (with_reducible refine below_new ?_ (by omega)) | (with_reducible refine below_on ?_ hb1))⟩

set_option maxHeartbeats 800000 in
theorem refNow_next (c : Clk)  (w : World) (hg : Good c) (hr : c.rest = false) (ht : c.time ≤ c.p) (hl : c.l < 4294967295) :
    Calls Try.prog 20 #[.agg #[.int .u8 c.node, .int .u64 c.time, .int .u64 c.drift, .bool c.rest, .int .u64 c.start, .int .u64 c.p, .int .u32 c.l, .int .u8 c.n]] w fun e w' => e = .returned (.tuple #[stV (c.p, c.l + 1, c.node), .int .i64 0, refV { c with l := c.l + 1, n := c.node }]) ∧ Below w.heap.size w w' := by
  obtain ⟨node, time, drift, start, rest, p, l, n⟩ := c
  (try simp only [] at *)
  obtain ⟨g1, g2, g3, g4, g5, g6, g7, g8, g9, g10, g11, g12, g13, g14⟩ := hg
  (try simp only [] at *)
  subst hr
  have c1 : decide (p < time) = false := by simpa using ht
  have c2 : (l == 4294967295) = false := by simp; omega
  go_enter Try.func20, Try.ntmps20
  go_wp2
  go_region
  go_wp2
  go_returns
  exact ⟨rfl, by repeat (first | (with_reducible exact Below.refl _ _) | (with_reducible assumption) | (with_reducible apply below_dn) | (with_reducible apply below_al) | (with_reducible apply Below.drew) | (with_reducible refine below_new ?_ (by omega)) | (with_reducible refine below_on ?_ hb1))⟩

set_option maxHeartbeats 800000 in
theorem refNow_firstR (c : Clk)  (w : World) (hg : Good c) (hr : c.rest = true) (hs : c.start < c.time) (ht : c.p < c.time) :
    Calls Try.prog 20 #[.agg #[.int .u8 c.node, .int .u64 c.time, .int .u64 c.drift, .bool c.rest, .int .u64 c.start, .int .u64 c.p, .int .u32 c.l, .int .u8 c.n]] w fun e w' => e = .returned (.tuple #[stV (c.time, 0, c.node), .int .i64 0, refV { c with p := c.time, l := 0, n := c.node }]) ∧ Below w.heap.size w w' := by
  obtain ⟨node, time, drift, start, rest, p, l, n⟩ := c
  (try simp only [] at *)
  obtain ⟨g1, g2, g3, g4, g5, g6, g7, g8, g9, g10, g11, g12, g13, g14⟩ := hg
  (try simp only [] at *)
  subst hr
  have c0 : decide (time ≤ start) = false := by simpa using hs
  have c1 : decide (p < time) = true := by simpa using ht
  go_enter Try.func20, Try.ntmps20
  go_wp2
  go_region
  go_wp2
  go_returns
  exact ⟨rfl, by repeat (first | (with_reducible exact Below.refl _ _) | (with_reducible assumption) | (with_reducible apply below_dn) | (with_reducible apply below_al) | (with_reducible apply Below.drew) | (with_reducible refine below_new ?_ (by omega)) | (with_reducible refine below_on ?_ hb1))⟩

set_option maxHeartbeats 800000 in
theorem refNow_fullR (c : Clk)  (w : World) (hg : Good c) (hr : c.rest = true) (hs : c.start < c.time) (ht : c.time ≤ c.p) (hl : c.l = 4294967295) :
    Calls Try.prog 20 #[.agg #[.int .u8 c.node, .int .u64 c.time, .int .u64 c.drift, .bool c.rest, .int .u64 c.start, .int .u64 c.p, .int .u32 c.l, .int .u8 c.n]] w fun e w' => e = .returned (.tuple #[stV (0, 0, 0), .int .i64 6, refV c]) ∧ Below w.heap.size w w' := by
  obtain ⟨node, time, drift, start, rest, p, l, n⟩ := c
  (try simp only [] at *)
  obtain ⟨g1, g2, g3, g4, g5, g6, g7, g8, g9, g10, g11, g12, g13, g14⟩ := hg
  (try simp only [] at *)
  subst hr
  have c0 : decide (time ≤ start) = false := by simpa using hs
  have c1 : decide (p < time) = false := by simpa using ht
  subst hl
  go_enter Try.func20, Try.ntmps20
  go_wp2
  go_region
  go_wp2
  go_returns
  exact ⟨rfl, by repeat (first | (with_reducible exact Below.refl _ _) | (with_reducible assumption) | (with_reducible apply below_dn) | (with_reducible apply below_al) | (with_reducible apply Below.drew) | (with_reducible refine below_new ?_ (by omega)) | (with_reducible refine below_on ?_ hb1))⟩

set_option maxHeartbeats 800000 in
theorem refNow_nextR (c : Clk)  (w : World) (hg : Good c) (hr : c.rest = true) (hs : c.start < c.time) (ht : c.time ≤ c.p) (hl : c.l < 4294967295) :
    Calls Try.prog 20 #[.agg #[.int .u8 c.node, .int .u64 c.time, .int .u64 c.drift, .bool c.rest, .int .u64 c.start, .int .u64 c.p, .int .u32 c.l, .int .u8 c.n]] w fun e w' => e = .returned (.tuple #[stV (c.p, c.l + 1, c.node), .int .i64 0, refV { c with l := c.l + 1, n := c.node }]) ∧ Below w.heap.size w w' := by
  obtain ⟨node, time, drift, start, rest, p, l, n⟩ := c
  (try simp only [] at *)
  obtain ⟨g1, g2, g3, g4, g5, g6, g7, g8, g9, g10, g11, g12, g13, g14⟩ := hg
  (try simp only [] at *)
  subst hr
  have c0 : decide (time ≤ start) = false := by simpa using hs
  have c1 : decide (p < time) = false := by simpa using ht
  have c2 : (l == 4294967295) = false := by simp; omega
  go_enter Try.func20, Try.ntmps20
  go_wp2
  go_region
  go_wp2
  go_returns
  exact ⟨rfl, by repeat (first | (with_reducible exact Below.refl _ _) | (with_reducible assumption) | (with_reducible apply below_dn) | (with_reducible apply below_al) | (with_reducible apply Below.drew) | (with_reducible refine below_new ?_ (by omega)) | (with_reducible refine below_on ?_ hb1))⟩

theorem refNow_any (c : Clk) (w : World) (hg : Good c) :
    Calls Try.prog 20 #[.agg #[.int .u8 c.node, .int .u64 c.time, .int .u64 c.drift, .bool c.rest, .int .u64 c.start, .int .u64 c.p, .int .u32 c.l, .int .u8 c.n]] w fun e w' => e = .returned (.tuple #[stV (nowC c).1, .int .i64 (nowC c).2.1, refV (nowC c).2.2]) ∧ Below w.heap.size w w' := by
  unfold nowC
  by_cases h1 : c.rest = true ∧ c.time ≤ c.start
  · rw [if_pos h1]; exact refNow_rest c w hg h1.1 h1.2
  rw [if_neg h1]
  have hl1 := hg.l1
  cases hr : c.rest with
  | false =>
    by_cases h2 : c.p < c.time
    · rw [if_pos h2]; rw [← hr]; exact refNow_first c w hg hr h2
    · rw [if_neg h2]
      by_cases h3 : c.l = 4294967295
      · rw [if_pos h3]; rw [← hr]; exact refNow_full c w hg hr (by omega) h3
      · rw [if_neg h3]; rw [← hr]; exact refNow_next c w hg hr (by omega) (by omega)
  | true =>
    have h4 : c.start < c.time := by
      rcases Int.lt_or_le c.start c.time with h | h
      · exact h
      · exact absurd ⟨hr, h⟩ h1
    by_cases h2 : c.p < c.time
    · rw [if_pos h2]; rw [← hr]; exact refNow_firstR c w hg hr h4 h2
    · rw [if_neg h2]
      by_cases h3 : c.l = 4294967295
      · rw [if_pos h3]; rw [← hr]; exact refNow_fullR c w hg hr h4 (by omega) h3
      · rw [if_neg h3]; rw [← hr]; exact refNow_nextR c w hg hr h4 (by omega) (by omega)

set_option maxHeartbeats 800000 in
theorem refPass_all (c : Clk) (k : Int) (w : World) (hg : Good c) (hk : 0 < k) (hk1 : k < 281474976710655 - c.time) :
    Calls Try.prog 22 #[.agg #[.int .u8 c.node, .int .u64 c.time, .int .u64 c.drift, .bool c.rest, .int .u64 c.start, .int .u64 c.p, .int .u32 c.l, .int .u8 c.n], .int .i64 k] w fun e w' => e = .returned (refV { c with time := c.time + k }) ∧ Below w.heap.size w w' := by
  obtain ⟨node, time, drift, start, rest, p, l, n⟩ := c
  (try simp only [] at *)
  obtain ⟨g1, g2, g3, g4, g5, g6, g7, g8, g9, g10, g11, g12, g13, g14⟩ := hg
  (try simp only [] at *)
  have c1 : decide (0 < k) = true := by simp; omega
  have hw : IntKind.u64.wrap k = k := IntWalk.u64_in _ ⟨by omega, by omega⟩
  have c2 : decide (k < 281474976710655 - time) = true := by simpa using hk1
  go_enter Try.func22, Try.ntmps22
  go_wp2
  go_returns
  exact ⟨rfl, by repeat (first | (with_reducible exact Below.refl _ _) | (with_reducible assumption) | (with_reducible apply below_dn) | (with_reducible apply below_al) | (with_reducible apply Below.drew) | (with_reducible refine below_new ?_ (by omega)) | (with_reducible refine below_on ?_ hb1))⟩

set_option maxHeartbeats 800000 in
theorem refPass_cut (c : Clk) (k : Int) (w : World) (hg : Good c) (hk : 0 < k) (hk0 : 281474976710655 - c.time ≤ k) (hk1 : k ≤ 9223372036854775807) :
    Calls Try.prog 22 #[.agg #[.int .u8 c.node, .int .u64 c.time, .int .u64 c.drift, .bool c.rest, .int .u64 c.start, .int .u64 c.p, .int .u32 c.l, .int .u8 c.n], .int .i64 k] w fun e w' => e = .returned (refV { c with time := c.time + (281474976710655 - c.time) }) ∧ Below w.heap.size w w' := by
  obtain ⟨node, time, drift, start, rest, p, l, n⟩ := c
  (try simp only [] at *)
  obtain ⟨g1, g2, g3, g4, g5, g6, g7, g8, g9, g10, g11, g12, g13, g14⟩ := hg
  (try simp only [] at *)
  have c1 : decide (0 < k) = true := by simp; omega
  have hw : IntKind.u64.wrap k = k := IntWalk.u64_in _ ⟨by omega, by omega⟩
  have c2 : decide (k < 281474976710655 - time) = false := by simpa using hk0
  go_enter Try.func22, Try.ntmps22
  go_wp2
  go_returns
  exact ⟨rfl, by repeat (first | (with_reducible exact Below.refl _ _) | (with_reducible assumption) | (with_reducible apply below_dn) | (with_reducible apply below_al) | (with_reducible apply Below.drew) | (with_reducible refine below_new ?_ (by omega)) | (with_reducible refine below_on ?_ hb1))⟩

set_option maxHeartbeats 800000 in
theorem refPass_none (c : Clk) (k : Int) (w : World) (hg : Good c) (hk : k ≤ 0) :
    Calls Try.prog 22 #[.agg #[.int .u8 c.node, .int .u64 c.time, .int .u64 c.drift, .bool c.rest, .int .u64 c.start, .int .u64 c.p, .int .u32 c.l, .int .u8 c.n], .int .i64 k] w fun e w' => e = .returned (refV c) ∧ Below w.heap.size w w' := by
  obtain ⟨node, time, drift, start, rest, p, l, n⟩ := c
  (try simp only [] at *)
  obtain ⟨g1, g2, g3, g4, g5, g6, g7, g8, g9, g10, g11, g12, g13, g14⟩ := hg
  (try simp only [] at *)
  have c1 : decide (0 < k) = false := by simpa using hk
  go_enter Try.func22, Try.ntmps22
  go_wp2
  go_returns
  exact ⟨rfl, by repeat (first | (with_reducible exact Below.refl _ _) | (with_reducible assumption) | (with_reducible apply below_dn) | (with_reducible apply below_al) | (with_reducible apply Below.drew) | (with_reducible refine below_new ?_ (by omega)) | (with_reducible refine below_on ?_ hb1))⟩

theorem refPass_any (c : Clk) (k : Int) (w : World) (hg : Good c) (hk : k ≤ 9223372036854775807) :
    Calls Try.prog 22 #[.agg #[.int .u8 c.node, .int .u64 c.time, .int .u64 c.drift, .bool c.rest, .int .u64 c.start, .int .u64 c.p, .int .u32 c.l, .int .u8 c.n], .int .i64 k] w fun e w' => e = .returned (refV (passC c k)) ∧ Below w.heap.size w w' := by
  unfold passC
  by_cases h : 0 < k
  · rw [if_pos h]
    by_cases h2 : 281474976710655 - c.time < k
    · rw [if_pos h2]; exact refPass_cut c k w hg h (by omega) hk
    · rw [if_neg h2]
      by_cases h3 : k = 281474976710655 - c.time
      · rw [h3]; exact refPass_cut c _ w hg (by omega) (by omega) (by omega)
      · exact refPass_all c k w hg h (by omega)
  · rw [if_neg h]; exact refPass_none c k w hg (by omega)

set_option maxHeartbeats 800000 in
theorem refSee_far (c : Clk) (p1 l1 n1 : Int) (w : World) (hg : Good c) (hp0 : 0 ≤ p1) (hp1 : p1 ≤ 18446744073709551615) (hl0 : 0 ≤ l1) (hl1 : l1 ≤ 4294967295) (hn0 : 0 ≤ n1) (hn1 : n1 ≤ 255) (h1 : 63 < n1) :
    Calls Try.prog 21 #[.agg #[.int .u8 c.node, .int .u64 c.time, .int .u64 c.drift, .bool c.rest, .int .u64 c.start, .int .u64 c.p, .int .u32 c.l, .int .u8 c.n], .agg #[.int .u64 p1, .int .u32 l1, .int .u8 n1]] w fun e w' => e = .returned (.tuple #[.int .i64 9, refV c]) ∧ Below w.heap.size w w' := by
  obtain ⟨node, time, drift, start, rest, p, l, n⟩ := c
  (try simp only [] at *)
  obtain ⟨g1, g2, g3, g4, g5, g6, g7, g8, g9, g10, g11, g12, g13, g14⟩ := hg
  (try simp only [] at *)
  have c1 : decide (63 < n1) = true := by simp; omega
  go_enter Try.func21, Try.ntmps21
  go_wp2
  go_region
  go_wp2
  go_returns
  exact ⟨rfl, by repeat (first | (with_reducible exact Below.refl _ _) | (with_reducible assumption) | (with_reducible apply below_dn) | (with_reducible apply below_al) | (with_reducible apply Below.drew) | (with_reducible refine below_new ?_ (by omega)) | (with_reducible refine below_on ?_ hb1))⟩

set_option maxHeartbeats 800000 in
theorem refSee_drift (c : Clk) (p1 l1 n1 : Int) (w : World) (hg : Good c) (hp0 : 0 ≤ p1) (hp1 : p1 ≤ 18446744073709551615) (hl0 : 0 ≤ l1) (hl1 : l1 ≤ 4294967295) (hn0 : 0 ≤ n1) (hn1 : n1 ≤ 255) (h1 : n1 ≤ 63) (h2 : c.time + c.drift < p1) :
    Calls Try.prog 21 #[.agg #[.int .u8 c.node, .int .u64 c.time, .int .u64 c.drift, .bool c.rest, .int .u64 c.start, .int .u64 c.p, .int .u32 c.l, .int .u8 c.n], .agg #[.int .u64 p1, .int .u32 l1, .int .u8 n1]] w fun e w' => e = .returned (.tuple #[.int .i64 9, refV c]) ∧ Below w.heap.size w w' := by
  obtain ⟨node, time, drift, start, rest, p, l, n⟩ := c
  (try simp only [] at *)
  obtain ⟨g1, g2, g3, g4, g5, g6, g7, g8, g9, g10, g11, g12, g13, g14⟩ := hg
  (try simp only [] at *)
  have c1 : decide (63 < n1) = false := by simp; omega
  have c2 : decide (time + drift < p1) = true := by simpa using h2
  go_enter Try.func21, Try.ntmps21
  go_wp2
  go_region
  go_wp2
  go_returns
  exact ⟨rfl, by repeat (first | (with_reducible exact Below.refl _ _) | (with_reducible assumption) | (with_reducible apply below_dn) | (with_reducible apply below_al) | (with_reducible apply Below.drew) | (with_reducible refine below_new ?_ (by omega)) | (with_reducible refine below_on ?_ hb1))⟩

set_option maxHeartbeats 800000 in
theorem refSee_new (c : Clk) (p1 l1 n1 : Int) (w : World) (hg : Good c) (hp0 : 0 ≤ p1) (hp1 : p1 ≤ 18446744073709551615) (hl0 : 0 ≤ l1) (hl1 : l1 ≤ 4294967295) (hn0 : 0 ≤ n1) (hn1 : n1 ≤ 255) (h1 : n1 ≤ 63) (h2 : p1 ≤ c.time + c.drift) (h3 : cmpS c.p c.l c.n p1 l1 n1 = -1) :
    Calls Try.prog 21 #[.agg #[.int .u8 c.node, .int .u64 c.time, .int .u64 c.drift, .bool c.rest, .int .u64 c.start, .int .u64 c.p, .int .u32 c.l, .int .u8 c.n], .agg #[.int .u64 p1, .int .u32 l1, .int .u8 n1]] w fun e w' => e = .returned (.tuple #[.int .i64 0, refV { c with p := p1, l := l1, n := n1 }]) ∧ Below w.heap.size w w' := by
  obtain ⟨node, time, drift, start, rest, p, l, n⟩ := c
  (try simp only [] at *)
  obtain ⟨g1, g2, g3, g4, g5, g6, g7, g8, g9, g10, g11, g12, g13, g14⟩ := hg
  (try simp only [] at *)
  have c1 : decide (63 < n1) = false := by simp; omega
  have c2 : decide (time + drift < p1) = false := by simpa using h2
  have h4 := fun w => less_any p l n p1 l1 n1 w
  have h5 : lessS p l n p1 l1 n1 = true := by unfold lessS; simpa using h3
  rw [h5] at h4
  have H4 := Lib.hid h4
  clear h4 h5 h3
  go_enter Try.func21, Try.ntmps21
  go_wp2_with (go_at_call 17; (with_reducible refine (H4.out _).mono ?_); rintro e w1 ⟨rfl, hb1⟩; have A0 := at_below (at_alloc (at_alloc (at_new w _ _))) hb1; have A1 := at_below (at_alloc (at_new (w.alloc _) _ _)) hb1; have A2 := at_below (at_new ((w.alloc _).alloc _) _ _) hb1; simp only [World.size_alloc] at A1 A2; obtain ⟨x0, x1, x2, x3, x4, x5, x6, x7, f0, f1, f2, f3, f4, f5, f6, f7⟩ := at8 A0; obtain ⟨y0, y1, y2, yf0, yf1, yf2⟩ := at3 A1; obtain ⟨z0, z1, z2, z3, z4, z5, z6, z7, zf0, zf1, zf2, zf3, zf4, zf5, zf6, zf7⟩ := at8 A2; clear A0 A1 A2)
  go_region
  go_wp2
  refine bodyPost_ret (v := .tuple #[.int .i64 0, .agg #[.int .u8 node, .int .u64 time, .int .u64 drift, .bool rest, .int .u64 start, .int .u64 p1, .int .u32 l1, .int .u8 n1]]) (by clear hb1; simp [results, Try.results21, go_sem, *]) rfl ?_
  exact ⟨rfl, by repeat (first | (with_reducible exact Below.refl _ _) | (with_reducible assumption) | (with_reducible apply below_dn) | (with_reducible apply below_al) | (with_reducible apply Below.drew) | (with_reducible refine below_new ?_ (by omega)) | (with_reducible refine below_on ?_ hb1))⟩

set_option maxHeartbeats 800000 in
theorem refSee_old (c : Clk) (p1 l1 n1 : Int) (w : World) (hg : Good c) (hp0 : 0 ≤ p1) (hp1 : p1 ≤ 18446744073709551615) (hl0 : 0 ≤ l1) (hl1 : l1 ≤ 4294967295) (hn0 : 0 ≤ n1) (hn1 : n1 ≤ 255) (h1 : n1 ≤ 63) (h2 : p1 ≤ c.time + c.drift) (h3 : cmpS c.p c.l c.n p1 l1 n1 ≠ -1) :
    Calls Try.prog 21 #[.agg #[.int .u8 c.node, .int .u64 c.time, .int .u64 c.drift, .bool c.rest, .int .u64 c.start, .int .u64 c.p, .int .u32 c.l, .int .u8 c.n], .agg #[.int .u64 p1, .int .u32 l1, .int .u8 n1]] w fun e w' => e = .returned (.tuple #[.int .i64 0, refV c]) ∧ Below w.heap.size w w' := by
  obtain ⟨node, time, drift, start, rest, p, l, n⟩ := c
  (try simp only [] at *)
  obtain ⟨g1, g2, g3, g4, g5, g6, g7, g8, g9, g10, g11, g12, g13, g14⟩ := hg
  (try simp only [] at *)
  have c1 : decide (63 < n1) = false := by simp; omega
  have c2 : decide (time + drift < p1) = false := by simpa using h2
  have h4 := fun w => less_any p l n p1 l1 n1 w
  have h5 : lessS p l n p1 l1 n1 = false := by unfold lessS; simpa using h3
  rw [h5] at h4
  have H4 := Lib.hid h4
  clear h4 h5 h3
  go_enter Try.func21, Try.ntmps21
  go_wp2_with (go_at_call 17; (with_reducible refine (H4.out _).mono ?_); rintro e w1 ⟨rfl, hb1⟩; have A0 := at_below (at_alloc (at_alloc (at_new w _ _))) hb1; have A1 := at_below (at_alloc (at_new (w.alloc _) _ _)) hb1; have A2 := at_below (at_new ((w.alloc _).alloc _) _ _) hb1; simp only [World.size_alloc] at A1 A2; obtain ⟨x0, x1, x2, x3, x4, x5, x6, x7, f0, f1, f2, f3, f4, f5, f6, f7⟩ := at8 A0; obtain ⟨y0, y1, y2, yf0, yf1, yf2⟩ := at3 A1; obtain ⟨z0, z1, z2, z3, z4, z5, z6, z7, zf0, zf1, zf2, zf3, zf4, zf5, zf6, zf7⟩ := at8 A2; clear A0 A1 A2)
  go_region
  go_wp2
  refine bodyPost_ret (v := .tuple #[.int .i64 0, .agg #[.int .u8 node, .int .u64 time, .int .u64 drift, .bool rest, .int .u64 start, .int .u64 p, .int .u32 l, .int .u8 n]]) (by clear hb1; simp [results, Try.results21, go_sem, *]) rfl ?_
  exact ⟨rfl, by repeat (first | (with_reducible exact Below.refl _ _) | (with_reducible assumption) | (with_reducible apply below_dn) | (with_reducible apply below_al) | (with_reducible apply Below.drew) | (with_reducible refine below_new ?_ (by omega)) | (with_reducible refine below_on ?_ hb1))⟩

theorem refSee_any (c : Clk) (p1 l1 n1 : Int) (w : World) (hg : Good c) (hp0 : 0 ≤ p1) (hp1 : p1 ≤ 18446744073709551615) (hl0 : 0 ≤ l1) (hl1 : l1 ≤ 4294967295) (hn0 : 0 ≤ n1) (hn1 : n1 ≤ 255) :
    Calls Try.prog 21 #[.agg #[.int .u8 c.node, .int .u64 c.time, .int .u64 c.drift, .bool c.rest, .int .u64 c.start, .int .u64 c.p, .int .u32 c.l, .int .u8 c.n], .agg #[.int .u64 p1, .int .u32 l1, .int .u8 n1]] w fun e w' => e = .returned (.tuple #[.int .i64 (seeC c p1 l1 n1).1, refV (seeC c p1 l1 n1).2]) ∧ Below w.heap.size w w' := by
  unfold seeC
  by_cases h1 : 63 < n1 ∨ c.time + c.drift < p1
  · rw [if_pos h1]
    by_cases h2 : 63 < n1
    · exact refSee_far c p1 l1 n1 w hg hp0 hp1 hl0 hl1 hn0 hn1 h2
    · exact refSee_drift c p1 l1 n1 w hg hp0 hp1 hl0 hl1 hn0 hn1 (by omega) (by omega)
  · rw [if_neg h1]
    by_cases h : cmpS c.p c.l c.n p1 l1 n1 = -1
    · rw [if_pos h]; exact refSee_new c p1 l1 n1 w hg hp0 hp1 hl0 hl1 hn0 hn1 (by omega) (by omega) h
    · rw [if_neg h]; exact refSee_old c p1 l1 n1 w hg hp0 hp1 hl0 hl1 hn0 hn1 (by omega) (by omega) h

end Go.Proofs.Ytcidckcdfacplaa.Hlc

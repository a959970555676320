/- The program's clock: what each method does to it (own text). -/
import Derived.Test.YtcidckcdfacplaaHlcCmp
import Derived.RegionTactic
import Derived.ChangeAlike
import Derived.BigRegion
import Derived.Deep.RegionHeld3
namespace Go.Proofs.Ytcidckcdfacplaa.Hlc
open Go.RowKit Go.Proofs.Ytcidckcdfacplaa.Mem
set_option linter.unusedVariables false
set_option linter.unusedSimpArgs false

/-- A clock's state: its node, time, drift, the time until which it rests, whether it rests, the last stamp. -/
structure Clk where
  node : Int
  time : Int
  drift : Int
  start : Int
  rest : Bool
  p : Int
  l : Int
  n : Int
def clkA (c : Clk) : Array Value := #[.int .u8 c.node, .int .u64 c.time, .int .u64 c.drift, .int .u64 c.start, .bool c.rest, .int .u64 c.p, .int .u32 c.l, .int .u8 c.n]
/-- A clock stands in a block. -/
def ClkAt (w : World) (b : Nat) (c : Clk) : Prop := At w b (clkA c) 60
/-- A clock as New makes it and as the methods leave it. -/
structure Good (c : Clk) : Prop where
  n0 : 0 ≤ c.node
  n1 : c.node < 64
  t0 : 0 ≤ c.time
  t1 : c.time ≤ 281474976710655
  d0 : 0 ≤ c.drift
  d1 : c.drift ≤ 1000
  p0 : 0 ≤ c.p
  p1 : c.p ≤ c.time + c.drift
  l0 : 0 ≤ c.l
  l1 : c.l ≤ 4294967295
  m0 : 0 ≤ c.n
  m1 : c.n < 64
  s0 : 0 ≤ c.start
  s1 : c.start ≤ 281474976711655
/-- What Now answers (the stamp, the error's number) and leaves. -/
def nowC (c : Clk) : (Int × Int × Int) × Int × Clk :=
  if c.rest = true ∧ c.time ≤ c.start then ((0, 0, 0), 10, c)
  else if c.p < c.time then ((c.time, 0, c.node), 0, { c with p := c.time, l := 0, n := c.node })
  else if c.l = 4294967295 then ((0, 0, 0), 6, c)
  else ((c.p, c.l + 1, c.node), 0, { c with l := c.l + 1, n := c.node })
/-- What See answers and leaves. -/
def seeC (c : Clk) (p l n : Int) : Int × Clk :=
  if 63 < n ∨ c.time + c.drift < p then (9, c) else if cmpS c.p c.l c.n p l n = -1 then (0, { c with p := p, l := l, n := n }) else (0, c)
/-- What Pass leaves. -/
def passC (c : Clk) (k : Int) : Clk := if 0 < k then { c with time := c.time + (if 281474976710655 - c.time < k then 281474976710655 - c.time else k) } else c
theorem clk_cells {w : World} {b : Nat} {c : Clk} (h : ClkAt w b c) :
    w.cell? ⟨b, 0, none⟩ = some (.int .u8 c.node) ∧ w.cell? ⟨b, 1, none⟩ = some (.int .u64 c.time) ∧ w.cell? ⟨b, 2, none⟩ = some (.int .u64 c.drift) ∧ w.cell? ⟨b, 3, none⟩ = some (.int .u64 c.start) ∧
    w.cell? ⟨b, 4, none⟩ = some (.bool c.rest) ∧ w.cell? ⟨b, 5, none⟩ = some (.int .u64 c.p) ∧ w.cell? ⟨b, 6, none⟩ = some (.int .u32 c.l) ∧ w.cell? ⟨b, 7, none⟩ = some (.int .u8 c.n) :=
  ⟨h.cell 0, h.cell 1, h.cell 2, h.cell 3, h.cell 4, h.cell 5, h.cell 6, h.cell 7⟩
theorem good_now {c : Clk} (h : Good c) : Good (nowC c).2.2 := by
  unfold nowC
  have h0 := h
  obtain ⟨a1, a2, a3, a4, a5, a6, a7, a8, a9, a10, a11, a12, a13, a14⟩ := h
  split
  · exact h0
  split
  · constructor <;> simp only [] <;> omega
  split
  · exact h0
  · constructor <;> simp only [] <;> omega
theorem good_see {c : Clk} (h : Good c) {p l n : Int} (hp : 0 ≤ p) (hl : 0 ≤ l) (hl1 : l ≤ 4294967295) (hn : 0 ≤ n) : Good (seeC c p l n).2 := by
  unfold seeC
  have h0 := h
  obtain ⟨a1, a2, a3, a4, a5, a6, a7, a8, a9, a10, a11, a12, a13, a14⟩ := h
  split
  · exact h0
  split
  · constructor <;> simp only [] <;> omega
  · exact h0
theorem good_pass {c : Clk} (h : Good c) (k : Int) : Good (passC c k) := by
  unfold passC
  have h0 := h
  obtain ⟨a1, a2, a3, a4, a5, a6, a7, a8, a9, a10, a11, a12, a13, a14⟩ := h
  split
  · constructor <;> simp only [] <;> (try split) <;> omega
  · exact h0

set_option maxHeartbeats 800000 in
theorem now_rest (b : Nat) (c : Clk) (w : World) (hc : ClkAt w b c) (hg : Good c) (hr : c.rest = true) (ht : c.time ≤ c.start) :
    Calls Try.prog 16 #[.pointer (some ⟨b, 0, none⟩)] w fun e w' => e = .returned (.tuple #[.agg #[.int .u64 0, .int .u32 0, .int .u8 0], .int .i64 10]) ∧ ClkAt w' b c ∧ Chg (· = b) w w' := by
  obtain ⟨node, time, drift, start, rest, p, l, n⟩ := c
  (try simp only [] at *)
  obtain ⟨g1, g2, g3, g4, g5, g6, g7, g8, g9, g10, g11, g12, g13, g14⟩ := hg
  (try simp only [] at *)
  subst hr
  obtain ⟨k0, k1, k2, k3, k4, k5, k6, k7⟩ := clk_cells hc
  simp only [] at k0 k1 k2 k3 k4 k5 k6 k7
  have hlt : b < w.heap.size := At.lt hc
  have HA := Lib.hid hc
  have f5 := At.free hc 5
  have f6 := At.free hc 6
  have f7 := At.free hc 7
  have f1 := At.free hc 1
  have c1 : decide (time ≤ start) = true := by simpa using ht
  clear hc
  go_enter Try.func16, Try.ntmps16
  go_wp2
  go_quiet (fail)
  go_wp2
  go_wp2
  go_returns
  have ha : At w b _ _ := HA.out
  refine ⟨rfl, ?_, (by repeat (first | (with_reducible exact chg_refl _ _) | (with_reducible apply chg_drewN) | (with_reducible apply chg_drew) | (with_reducible apply chg_alloc) | (with_reducible refine chg_set ?_ (show (fun x => x = b) b from rfl)) | (with_reducible refine chg_set_new ?_ (Nat.le_refl _)) | (with_reducible refine chg_below ?_ hb1)))⟩
  show At _ _ _ _
  repeat (first | (with_reducible exact ha) | (with_reducible apply at_drewN) | (with_reducible apply at_drew) | (with_reducible apply at_alloc) | (with_reducible apply at_set') | (with_reducible apply at_set_ne (hne := Nat.ne_of_lt hlt)) | (with_reducible apply at_below (k := hb1)))
  all_goals rfl

set_option maxHeartbeats 800000 in
theorem now_first (b : Nat) (c : Clk) (w : World) (hc : ClkAt w b c) (hg : Good c) (hr : c.rest = false) (ht : c.p < c.time) :
    Calls Try.prog 16 #[.pointer (some ⟨b, 0, none⟩)] w fun e w' => e = .returned (.tuple #[.agg #[.int .u64 c.time, .int .u32 0, .int .u8 c.node], .int .i64 0]) ∧ ClkAt w' b { c with p := c.time, l := 0, n := c.node } ∧ Chg (· = b) w w' := by
  obtain ⟨node, time, drift, start, rest, p, l, n⟩ := c
  (try simp only [] at *)
  obtain ⟨g1, g2, g3, g4, g5, g6, g7, g8, g9, g10, g11, g12, g13, g14⟩ := hg
  (try simp only [] at *)
  subst hr
  obtain ⟨k0, k1, k2, k3, k4, k5, k6, k7⟩ := clk_cells hc
  simp only [] at k0 k1 k2 k3 k4 k5 k6 k7
  have hlt : b < w.heap.size := At.lt hc
  have HA := Lib.hid hc
  have f5 := At.free hc 5
  have f6 := At.free hc 6
  have f7 := At.free hc 7
  have f1 := At.free hc 1
  have c1 : decide (p < time) = true := by simpa using ht
  clear hc
  go_enter Try.func16, Try.ntmps16
  go_wp2
  go_quiet (fail)
  go_wp2
  go_quiet (fail)
  go_wp2
  go_region
  go_wp2
  go_returns
  have ha : At w b _ _ := HA.out
  refine ⟨rfl, ?_, (by repeat (first | (with_reducible exact chg_refl _ _) | (with_reducible apply chg_drewN) | (with_reducible apply chg_drew) | (with_reducible apply chg_alloc) | (with_reducible refine chg_set ?_ (show (fun x => x = b) b from rfl)) | (with_reducible refine chg_set_new ?_ (Nat.le_refl _)) | (with_reducible refine chg_below ?_ hb1)))⟩
  show At _ _ _ _
  repeat (first | (with_reducible exact ha) | (with_reducible apply at_drewN) | (with_reducible apply at_drew) | (with_reducible apply at_alloc) | (with_reducible apply at_set') | (with_reducible apply at_set_ne (hne := Nat.ne_of_lt hlt)) | (with_reducible apply at_below (k := hb1)))
  all_goals rfl

set_option maxHeartbeats 800000 in
theorem now_full (b : Nat) (c : Clk) (w : World) (hc : ClkAt w b c) (hg : Good c) (hr : c.rest = false) (ht : c.time ≤ c.p) (hl : c.l = 4294967295) :
    Calls Try.prog 16 #[.pointer (some ⟨b, 0, none⟩)] w fun e w' => e = .returned (.tuple #[.agg #[.int .u64 0, .int .u32 0, .int .u8 0], .int .i64 6]) ∧ ClkAt w' b c ∧ Chg (· = b) w w' := by
  obtain ⟨node, time, drift, start, rest, p, l, n⟩ := c
  (try simp only [] at *)
  obtain ⟨g1, g2, g3, g4, g5, g6, g7, g8, g9, g10, g11, g12, g13, g14⟩ := hg
  (try simp only [] at *)
  subst hr
  obtain ⟨k0, k1, k2, k3, k4, k5, k6, k7⟩ := clk_cells hc
  simp only [] at k0 k1 k2 k3 k4 k5 k6 k7
  have hlt : b < w.heap.size := At.lt hc
  have HA := Lib.hid hc
  have f5 := At.free hc 5
  have f6 := At.free hc 6
  have f7 := At.free hc 7
  have f1 := At.free hc 1
  have c1 : decide (p < time) = false := by simpa using ht
  subst hl
  clear hc
  go_enter Try.func16, Try.ntmps16
  go_wp2
  go_quiet (fail)
  go_wp2
  go_quiet (fail)
  go_wp2
  go_wp2
  go_returns
  have ha : At w b _ _ := HA.out
  refine ⟨rfl, ?_, (by repeat (first | (with_reducible exact chg_refl _ _) | (with_reducible apply chg_drewN) | (with_reducible apply chg_drew) | (with_reducible apply chg_alloc) | (with_reducible refine chg_set ?_ (show (fun x => x = b) b from rfl)) | (with_reducible refine chg_set_new ?_ (Nat.le_refl _)) | (with_reducible refine chg_below ?_ hb1)))⟩
  show At _ _ _ _
  repeat (first | (with_reducible exact ha) | (with_reducible apply at_drewN) | (with_reducible apply at_drew) | (with_reducible apply at_alloc) | (with_reducible apply at_set') | (with_reducible apply at_set_ne (hne := Nat.ne_of_lt hlt)) | (with_reducible apply at_below (k := hb1)))
  all_goals rfl

set_option maxHeartbeats 800000 in
theorem now_next (b : Nat) (c : Clk) (w : World) (hc : ClkAt w b c) (hg : Good c) (hr : c.rest = false) (ht : c.time ≤ c.p) (hl : c.l < 4294967295) :
    Calls Try.prog 16 #[.pointer (some ⟨b, 0, none⟩)] w fun e w' => e = .returned (.tuple #[.agg #[.int .u64 c.p, .int .u32 (c.l + 1), .int .u8 c.node], .int .i64 0]) ∧ ClkAt w' b { c with l := c.l + 1, n := c.node } ∧ Chg (· = b) w w' := by
  obtain ⟨node, time, drift, start, rest, p, l, n⟩ := c
  (try simp only [] at *)
  obtain ⟨g1, g2, g3, g4, g5, g6, g7, g8, g9, g10, g11, g12, g13, g14⟩ := hg
  (try simp only [] at *)
  subst hr
  obtain ⟨k0, k1, k2, k3, k4, k5, k6, k7⟩ := clk_cells hc
  simp only [] at k0 k1 k2 k3 k4 k5 k6 k7
  have hlt : b < w.heap.size := At.lt hc
  have HA := Lib.hid hc
  have f5 := At.free hc 5
  have f6 := At.free hc 6
  have f7 := At.free hc 7
  have f1 := At.free hc 1
  have c1 : decide (p < time) = false := by simpa using ht
  have c2 : (l == 4294967295) = false := by simp; omega
  clear hc
  go_enter Try.func16, Try.ntmps16
  go_wp2
  go_quiet (fail)
  go_wp2
  go_quiet (fail)
  go_wp2
  go_region
  go_wp2
  go_returns
  have ha : At w b _ _ := HA.out
  refine ⟨rfl, ?_, (by repeat (first | (with_reducible exact chg_refl _ _) | (with_reducible apply chg_drewN) | (with_reducible apply chg_drew) | (with_reducible apply chg_alloc) | (with_reducible refine chg_set ?_ (show (fun x => x = b) b from rfl)) | (with_reducible refine chg_set_new ?_ (Nat.le_refl _)) | (with_reducible refine chg_below ?_ hb1)))⟩
  show At _ _ _ _
  repeat (first | (with_reducible exact ha) | (with_reducible apply at_drewN) | (with_reducible apply at_drew) | (with_reducible apply at_alloc) | (with_reducible apply at_set') | (with_reducible apply at_set_ne (hne := Nat.ne_of_lt hlt)) | (with_reducible apply at_below (k := hb1)))
  all_goals rfl

set_option maxHeartbeats 800000 in
theorem now_firstR (b : Nat) (c : Clk) (w : World) (hc : ClkAt w b c) (hg : Good c) (hr : c.rest = true) (hs : c.start < c.time) (ht : c.p < c.time) :
    Calls Try.prog 16 #[.pointer (some ⟨b, 0, none⟩)] w fun e w' => e = .returned (.tuple #[.agg #[.int .u64 c.time, .int .u32 0, .int .u8 c.node], .int .i64 0]) ∧ ClkAt w' b { c with p := c.time, l := 0, n := c.node } ∧ Chg (· = b) w w' := by
  obtain ⟨node, time, drift, start, rest, p, l, n⟩ := c
  (try simp only [] at *)
  obtain ⟨g1, g2, g3, g4, g5, g6, g7, g8, g9, g10, g11, g12, g13, g14⟩ := hg
  (try simp only [] at *)
  subst hr
  obtain ⟨k0, k1, k2, k3, k4, k5, k6, k7⟩ := clk_cells hc
  simp only [] at k0 k1 k2 k3 k4 k5 k6 k7
  have hlt : b < w.heap.size := At.lt hc
  have HA := Lib.hid hc
  have f5 := At.free hc 5
  have f6 := At.free hc 6
  have f7 := At.free hc 7
  have f1 := At.free hc 1
  have c0 : decide (time ≤ start) = false := by simpa using hs
  have c1 : decide (p < time) = true := by simpa using ht
  clear hc
  go_enter Try.func16, Try.ntmps16
  go_wp2
  go_quiet (fail)
  go_wp2
  go_quiet (fail)
  go_wp2
  go_region
  go_wp2
  go_returns
  have ha : At w b _ _ := HA.out
  refine ⟨rfl, ?_, (by repeat (first | (with_reducible exact chg_refl _ _) | (with_reducible apply chg_drewN) | (with_reducible apply chg_drew) | (with_reducible apply chg_alloc) | (with_reducible refine chg_set ?_ (show (fun x => x = b) b from rfl)) | (with_reducible refine chg_set_new ?_ (Nat.le_refl _)) | (with_reducible refine chg_below ?_ hb1)))⟩
  show At _ _ _ _
  repeat (first | (with_reducible exact ha) | (with_reducible apply at_drewN) | (with_reducible apply at_drew) | (with_reducible apply at_alloc) | (with_reducible apply at_set') | (with_reducible apply at_set_ne (hne := Nat.ne_of_lt hlt)) | (with_reducible apply at_below (k := hb1)))
  all_goals rfl

set_option maxHeartbeats 800000 in
theorem now_fullR (b : Nat) (c : Clk) (w : World) (hc : ClkAt w b c) (hg : Good c) (hr : c.rest = true) (hs : c.start < c.time) (ht : c.time ≤ c.p) (hl : c.l = 4294967295) :
    Calls Try.prog 16 #[.pointer (some ⟨b, 0, none⟩)] w fun e w' => e = .returned (.tuple #[.agg #[.int .u64 0, .int .u32 0, .int .u8 0], .int .i64 6]) ∧ ClkAt w' b c ∧ Chg (· = b) w w' := by
  obtain ⟨node, time, drift, start, rest, p, l, n⟩ := c
  (try simp only [] at *)
  obtain ⟨g1, g2, g3, g4, g5, g6, g7, g8, g9, g10, g11, g12, g13, g14⟩ := hg
  (try simp only [] at *)
  subst hr
  obtain ⟨k0, k1, k2, k3, k4, k5, k6, k7⟩ := clk_cells hc
  simp only [] at k0 k1 k2 k3 k4 k5 k6 k7
  have hlt : b < w.heap.size := At.lt hc
  have HA := Lib.hid hc
  have f5 := At.free hc 5
  have f6 := At.free hc 6
  have f7 := At.free hc 7
  have f1 := At.free hc 1
  have c0 : decide (time ≤ start) = false := by simpa using hs
  have c1 : decide (p < time) = false := by simpa using ht
  subst hl
  clear hc
  go_enter Try.func16, Try.ntmps16
  go_wp2
  go_quiet (fail)
  go_wp2
  go_quiet (fail)
  go_wp2
  go_wp2
  go_returns
  have ha : At w b _ _ := HA.out
  refine ⟨rfl, ?_, (by repeat (first | (with_reducible exact chg_refl _ _) | (with_reducible apply chg_drewN) | (with_reducible apply chg_drew) | (with_reducible apply chg_alloc) | (with_reducible refine chg_set ?_ (show (fun x => x = b) b from rfl)) | (with_reducible refine chg_set_new ?_ (Nat.le_refl _)) | (with_reducible refine chg_below ?_ hb1)))⟩
  show At _ _ _ _
  repeat (first | (with_reducible exact ha) | (with_reducible apply at_drewN) | (with_reducible apply at_drew) | (with_reducible apply at_alloc) | (with_reducible apply at_set') | (with_reducible apply at_set_ne (hne := Nat.ne_of_lt hlt)) | (with_reducible apply at_below (k := hb1)))
  all_goals rfl

set_option maxHeartbeats 800000 in
theorem now_nextR (b : Nat) (c : Clk) (w : World) (hc : ClkAt w b c) (hg : Good c) (hr : c.rest = true) (hs : c.start < c.time) (ht : c.time ≤ c.p) (hl : c.l < 4294967295) :
    Calls Try.prog 16 #[.pointer (some ⟨b, 0, none⟩)] w fun e w' => e = .returned (.tuple #[.agg #[.int .u64 c.p, .int .u32 (c.l + 1), .int .u8 c.node], .int .i64 0]) ∧ ClkAt w' b { c with l := c.l + 1, n := c.node } ∧ Chg (· = b) w w' := by
  obtain ⟨node, time, drift, start, rest, p, l, n⟩ := c
  (try simp only [] at *)
  obtain ⟨g1, g2, g3, g4, g5, g6, g7, g8, g9, g10, g11, g12, g13, g14⟩ := hg
  (try simp only [] at *)
  subst hr
  obtain ⟨k0, k1, k2, k3, k4, k5, k6, k7⟩ := clk_cells hc
  simp only [] at k0 k1 k2 k3 k4 k5 k6 k7
  have hlt : b < w.heap.size := At.lt hc
  have HA := Lib.hid hc
  have f5 := At.free hc 5
  have f6 := At.free hc 6
  have f7 := At.free hc 7
  have f1 := At.free hc 1
  have c0 : decide (time ≤ start) = false := by simpa using hs
  have c1 : decide (p < time) = false := by simpa using ht
  have c2 : (l == 4294967295) = false := by simp; omega
  clear hc
  go_enter Try.func16, Try.ntmps16
  go_wp2
  go_quiet (fail)
  go_wp2
  go_quiet (fail)
  go_wp2
  go_region
  go_wp2
  go_returns
  have ha : At w b _ _ := HA.out
  refine ⟨rfl, ?_, (by repeat (first | (with_reducible exact chg_refl _ _) | (with_reducible apply chg_drewN) | (with_reducible apply chg_drew) | (with_reducible apply chg_alloc) | (with_reducible refine chg_set ?_ (show (fun x => x = b) b from rfl)) | (with_reducible refine chg_set_new ?_ (Nat.le_refl _)) | (with_reducible refine chg_below ?_ hb1)))⟩
  show At _ _ _ _
  repeat (first | (with_reducible exact ha) | (with_reducible apply at_drewN) | (with_reducible apply at_drew) | (with_reducible apply at_alloc) | (with_reducible apply at_set') | (with_reducible apply at_set_ne (hne := Nat.ne_of_lt hlt)) | (with_reducible apply at_below (k := hb1)))
  all_goals rfl

theorem now_any (b : Nat) (c : Clk) (w : World) (hc : ClkAt w b c) (hg : Good c) :
    Calls Try.prog 16 #[.pointer (some ⟨b, 0, none⟩)] w fun e w' => e = .returned (.tuple #[.agg #[.int .u64 (nowC c).1.1, .int .u32 (nowC c).1.2.1, .int .u8 (nowC c).1.2.2], .int .i64 (nowC c).2.1]) ∧ ClkAt w' b (nowC c).2.2 ∧ Chg (· = b) w w' := by
  unfold nowC
  by_cases h1 : c.rest = true ∧ c.time ≤ c.start
  · rw [if_pos h1]; exact now_rest b c w hc hg h1.1 h1.2
  rw [if_neg h1]
  have hl1 := hg.l1
  cases hr : c.rest with
  | false =>
    by_cases h2 : c.p < c.time
    · rw [if_pos h2]; rw [← hr]; exact now_first b c w hc hg hr h2
    · rw [if_neg h2]
      by_cases h3 : c.l = 4294967295
      · rw [if_pos h3]; exact now_full b c w hc hg hr (by omega) h3
      · rw [if_neg h3]; rw [← hr]; exact now_next b c w hc hg hr (by omega) (by omega)
  | true =>
    have h4 : c.start < c.time := by
      rcases Int.lt_or_le c.start c.time with h | h
      · exact h
      · exact absurd ⟨hr, h⟩ h1
    by_cases h2 : c.p < c.time
    · rw [if_pos h2]; rw [← hr]; exact now_firstR b c w hc hg hr h4 h2
    · rw [if_neg h2]
      by_cases h3 : c.l = 4294967295
      · rw [if_pos h3]; exact now_fullR b c w hc hg hr h4 (by omega) h3
      · rw [if_neg h3]; rw [← hr]; exact now_nextR b c w hc hg hr h4 (by omega) (by omega)

set_option maxHeartbeats 800000 in
theorem time_any (b : Nat) (c : Clk)  (w : World) (hc : ClkAt w b c) (hg : Good c)  :
    Calls Try.prog 23 #[.pointer (some ⟨b, 0, none⟩)] w fun e w' => e = .returned (.int .u64 c.time) ∧ ClkAt w' b c ∧ Chg (· = b) w w' := by
  obtain ⟨node, time, drift, start, rest, p, l, n⟩ := c
  (try simp only [] at *)
  obtain ⟨g1, g2, g3, g4, g5, g6, g7, g8, g9, g10, g11, g12, g13, g14⟩ := hg
  (try simp only [] at *)
  obtain ⟨k0, k1, k2, k3, k4, k5, k6, k7⟩ := clk_cells hc
  simp only [] at k0 k1 k2 k3 k4 k5 k6 k7
  have hlt : b < w.heap.size := At.lt hc
  have HA := Lib.hid hc
  have f5 := At.free hc 5
  have f6 := At.free hc 6
  have f7 := At.free hc 7
  have f1 := At.free hc 1
  clear hc
  go_enter Try.func23, Try.ntmps23
  go_wp2
  go_ret
  have ha : At w b _ _ := HA.out
  refine ⟨rfl, ?_, (by repeat (first | (with_reducible exact chg_refl _ _) | (with_reducible apply chg_drewN) | (with_reducible apply chg_drew) | (with_reducible apply chg_alloc) | (with_reducible refine chg_set ?_ (show (fun x => x = b) b from rfl)) | (with_reducible refine chg_set_new ?_ (Nat.le_refl _)) | (with_reducible refine chg_below ?_ hb1)))⟩
  show At _ _ _ _
  repeat (first | (with_reducible exact ha) | (with_reducible apply at_drewN) | (with_reducible apply at_drew) | (with_reducible apply at_alloc) | (with_reducible apply at_set') | (with_reducible apply at_set_ne (hne := Nat.ne_of_lt hlt)) | (with_reducible apply at_below (k := hb1)))
  all_goals rfl

set_option maxHeartbeats 800000 in
theorem last_any (b : Nat) (c : Clk)  (w : World) (hc : ClkAt w b c) (hg : Good c)  :
    Calls Try.prog 15 #[.pointer (some ⟨b, 0, none⟩)] w fun e w' => e = .returned (.agg #[.int .u64 c.p, .int .u32 c.l, .int .u8 c.n]) ∧ ClkAt w' b c ∧ Chg (· = b) w w' := by
  obtain ⟨node, time, drift, start, rest, p, l, n⟩ := c
  (try simp only [] at *)
  obtain ⟨g1, g2, g3, g4, g5, g6, g7, g8, g9, g10, g11, g12, g13, g14⟩ := hg
  (try simp only [] at *)
  obtain ⟨k0, k1, k2, k3, k4, k5, k6, k7⟩ := clk_cells hc
  simp only [] at k0 k1 k2 k3 k4 k5 k6 k7
  have hlt : b < w.heap.size := At.lt hc
  have HA := Lib.hid hc
  have f5 := At.free hc 5
  have f6 := At.free hc 6
  have f7 := At.free hc 7
  have f1 := At.free hc 1
  clear hc
  go_enter Try.func15, Try.ntmps15
  go_wp2
  go_returns
  have ha : At w b _ _ := HA.out
  refine ⟨rfl, ?_, (by repeat (first | (with_reducible exact chg_refl _ _) | (with_reducible apply chg_drewN) | (with_reducible apply chg_drew) | (with_reducible apply chg_alloc) | (with_reducible refine chg_set ?_ (show (fun x => x = b) b from rfl)) | (with_reducible refine chg_set_new ?_ (Nat.le_refl _)) | (with_reducible refine chg_below ?_ hb1)))⟩
  show At _ _ _ _
  repeat (first | (with_reducible exact ha) | (with_reducible apply at_drewN) | (with_reducible apply at_drew) | (with_reducible apply at_alloc) | (with_reducible apply at_set') | (with_reducible apply at_set_ne (hne := Nat.ne_of_lt hlt)) | (with_reducible apply at_below (k := hb1)))
  all_goals rfl

set_option maxHeartbeats 800000 in
theorem pass_all (b : Nat) (c : Clk) (k : Int) (w : World) (hc : ClkAt w b c) (hg : Good c) (hk : 0 < k) (hk1 : k ≤ 281474976710655 - c.time) :
    Calls Try.prog 19 #[.pointer (some ⟨b, 0, none⟩), .int .i64 k] w fun e w' => e = .returned (.tuple #[]) ∧ ClkAt w' b { c with time := c.time + k } ∧ Chg (· = b) w w' := by
  obtain ⟨node, time, drift, start, rest, p, l, n⟩ := c
  (try simp only [] at *)
  obtain ⟨g1, g2, g3, g4, g5, g6, g7, g8, g9, g10, g11, g12, g13, g14⟩ := hg
  (try simp only [] at *)
  obtain ⟨k0, k1, k2, k3, k4, k5, k6, k7⟩ := clk_cells hc
  simp only [] at k0 k1 k2 k3 k4 k5 k6 k7
  have hlt : b < w.heap.size := At.lt hc
  have HA := Lib.hid hc
  have f5 := At.free hc 5
  have f6 := At.free hc 6
  have f7 := At.free hc 7
  have f1 := At.free hc 1
  have c1 : decide (0 < k) = true := by simpa using hk
  have hw : IntKind.u64.wrap k = k := IntWalk.u64_in _ ⟨by omega, by omega⟩
  clear hc
  go_enter Try.func19, Try.ntmps19
  go_wp2
  go_region
  go_wp2
  go_end0
  have ha : At w b _ _ := HA.out
  refine ⟨rfl, ?_, (by repeat (first | (with_reducible exact chg_refl _ _) | (with_reducible apply chg_drewN) | (with_reducible apply chg_drew) | (with_reducible apply chg_alloc) | (with_reducible refine chg_set ?_ (show (fun x => x = b) b from rfl)) | (with_reducible refine chg_set_new ?_ (Nat.le_refl _)) | (with_reducible refine chg_below ?_ hb1)))⟩
  show At _ _ _ _
  repeat (first | (with_reducible exact ha) | (with_reducible apply at_drewN) | (with_reducible apply at_drew) | (with_reducible apply at_alloc) | (with_reducible apply at_set') | (with_reducible apply at_set_ne (hne := Nat.ne_of_lt hlt)) | (with_reducible apply at_below (k := hb1)))
  all_goals rfl

set_option maxHeartbeats 800000 in
theorem pass_cut (b : Nat) (c : Clk) (k : Int) (w : World) (hc : ClkAt w b c) (hg : Good c) (hk : 281474976710655 - c.time < k) (hk1 : k ≤ 9223372036854775807) :
    Calls Try.prog 19 #[.pointer (some ⟨b, 0, none⟩), .int .i64 k] w fun e w' => e = .returned (.tuple #[]) ∧ ClkAt w' b { c with time := c.time + (281474976710655 - c.time) } ∧ Chg (· = b) w w' := by
  obtain ⟨node, time, drift, start, rest, p, l, n⟩ := c
  (try simp only [] at *)
  obtain ⟨g1, g2, g3, g4, g5, g6, g7, g8, g9, g10, g11, g12, g13, g14⟩ := hg
  (try simp only [] at *)
  obtain ⟨k0, k1, k2, k3, k4, k5, k6, k7⟩ := clk_cells hc
  simp only [] at k0 k1 k2 k3 k4 k5 k6 k7
  have hlt : b < w.heap.size := At.lt hc
  have HA := Lib.hid hc
  have f5 := At.free hc 5
  have f6 := At.free hc 6
  have f7 := At.free hc 7
  have f1 := At.free hc 1
  have c1 : decide (0 < k) = true := by simp; omega
  have hw : IntKind.u64.wrap k = k := IntWalk.u64_in _ ⟨by omega, by omega⟩
  clear hc
  go_enter Try.func19, Try.ntmps19
  go_wp2
  go_region
  go_wp2
  go_end0
  have ha : At w b _ _ := HA.out
  refine ⟨rfl, ?_, (by repeat (first | (with_reducible exact chg_refl _ _) | (with_reducible apply chg_drewN) | (with_reducible apply chg_drew) | (with_reducible apply chg_alloc) | (with_reducible refine chg_set ?_ (show (fun x => x = b) b from rfl)) | (with_reducible refine chg_set_new ?_ (Nat.le_refl _)) | (with_reducible refine chg_below ?_ hb1)))⟩
  show At _ _ _ _
  repeat (first | (with_reducible exact ha) | (with_reducible apply at_drewN) | (with_reducible apply at_drew) | (with_reducible apply at_alloc) | (with_reducible apply at_set') | (with_reducible apply at_set_ne (hne := Nat.ne_of_lt hlt)) | (with_reducible apply at_below (k := hb1)))
  all_goals rfl

set_option maxHeartbeats 800000 in
theorem pass_none (b : Nat) (c : Clk) (k : Int) (w : World) (hc : ClkAt w b c) (hg : Good c) (hk : k ≤ 0) :
    Calls Try.prog 19 #[.pointer (some ⟨b, 0, none⟩), .int .i64 k] w fun e w' => e = .returned (.tuple #[]) ∧ ClkAt w' b c ∧ Chg (· = b) w w' := by
  obtain ⟨node, time, drift, start, rest, p, l, n⟩ := c
  (try simp only [] at *)
  obtain ⟨g1, g2, g3, g4, g5, g6, g7, g8, g9, g10, g11, g12, g13, g14⟩ := hg
  (try simp only [] at *)
  obtain ⟨k0, k1, k2, k3, k4, k5, k6, k7⟩ := clk_cells hc
  simp only [] at k0 k1 k2 k3 k4 k5 k6 k7
  have hlt : b < w.heap.size := At.lt hc
  have HA := Lib.hid hc
  have f5 := At.free hc 5
  have f6 := At.free hc 6
  have f7 := At.free hc 7
  have f1 := At.free hc 1
  have c1 : decide (0 < k) = false := by simpa using hk
  clear hc
  go_enter Try.func19, Try.ntmps19
  go_wp2
  go_end0
  have ha : At w b _ _ := HA.out
  refine ⟨rfl, ?_, (by repeat (first | (with_reducible exact chg_refl _ _) | (with_reducible apply chg_drewN) | (with_reducible apply chg_drew) | (with_reducible apply chg_alloc) | (with_reducible refine chg_set ?_ (show (fun x => x = b) b from rfl)) | (with_reducible refine chg_set_new ?_ (Nat.le_refl _)) | (with_reducible refine chg_below ?_ hb1)))⟩
  show At _ _ _ _
  repeat (first | (with_reducible exact ha) | (with_reducible apply at_drewN) | (with_reducible apply at_drew) | (with_reducible apply at_alloc) | (with_reducible apply at_set') | (with_reducible apply at_set_ne (hne := Nat.ne_of_lt hlt)) | (with_reducible apply at_below (k := hb1)))
  all_goals rfl

theorem pass_any (b : Nat) (c : Clk) (k : Int) (w : World) (hc : ClkAt w b c) (hg : Good c) (hk : k ≤ 9223372036854775807) :
    Calls Try.prog 19 #[.pointer (some ⟨b, 0, none⟩), .int .i64 k] w fun e w' => e = .returned (.tuple #[]) ∧ ClkAt w' b (passC c k) ∧ Chg (· = b) w w' := by
  unfold passC
  by_cases h : 0 < k
  · rw [if_pos h]
    by_cases h2 : 281474976710655 - c.time < k
    · rw [if_pos h2]; exact pass_cut b c k w hc hg h2 hk
    · rw [if_neg h2]; exact pass_all b c k w hc hg h (by omega)
  · rw [if_neg h]; exact pass_none b c k w hc hg (by omega)

set_option maxHeartbeats 800000 in
theorem see_far (b : Nat) (c : Clk) (p1 l1 n1 : Int) (w : World) (hc : ClkAt w b c) (hg : Good c) (hp0 : 0 ≤ p1) (hp1 : p1 ≤ 18446744073709551615) (hl0 : 0 ≤ l1) (hl1 : l1 ≤ 4294967295) (hn0 : 0 ≤ n1) (hn1 : n1 ≤ 255) (h1 : 63 < n1) :
    Calls Try.prog 18 #[.pointer (some ⟨b, 0, none⟩), .agg #[.int .u64 p1, .int .u32 l1, .int .u8 n1]] w fun e w' => e = .returned (.int .i64 9) ∧ ClkAt w' b c ∧ Chg (· = b) w w' := by
  obtain ⟨node, time, drift, start, rest, p, l, n⟩ := c
  (try simp only [] at *)
  obtain ⟨g1, g2, g3, g4, g5, g6, g7, g8, g9, g10, g11, g12, g13, g14⟩ := hg
  (try simp only [] at *)
  obtain ⟨k0, k1, k2, k3, k4, k5, k6, k7⟩ := clk_cells hc
  simp only [] at k0 k1 k2 k3 k4 k5 k6 k7
  have hlt : b < w.heap.size := At.lt hc
  have HA := Lib.hid hc
  have f5 := At.free hc 5
  have f6 := At.free hc 6
  have f7 := At.free hc 7
  have f1 := At.free hc 1
  have c1 : decide (64 ≤ n1) = true := by simp; omega
  clear hc
  go_enter Try.func18, Try.ntmps18
  go_wp2
  go_quiet (fail)
  go_wp2
  go_ret
  have ha : At w b _ _ := HA.out
  refine ⟨rfl, ?_, (by repeat (first | (with_reducible exact chg_refl _ _) | (with_reducible apply chg_drewN) | (with_reducible apply chg_drew) | (with_reducible apply chg_alloc) | (with_reducible refine chg_set ?_ (show (fun x => x = b) b from rfl)) | (with_reducible refine chg_set_new ?_ (Nat.le_refl _)) | (with_reducible refine chg_below ?_ hb1)))⟩
  show At _ _ _ _
  repeat (first | (with_reducible exact ha) | (with_reducible apply at_drewN) | (with_reducible apply at_drew) | (with_reducible apply at_alloc) | (with_reducible apply at_set') | (with_reducible apply at_set_ne (hne := Nat.ne_of_lt hlt)) | (with_reducible apply at_below (k := hb1)))
  all_goals rfl

set_option maxHeartbeats 800000 in
theorem see_drift (b : Nat) (c : Clk) (p1 l1 n1 : Int) (w : World) (hc : ClkAt w b c) (hg : Good c) (hp0 : 0 ≤ p1) (hp1 : p1 ≤ 18446744073709551615) (hl0 : 0 ≤ l1) (hl1 : l1 ≤ 4294967295) (hn0 : 0 ≤ n1) (hn1 : n1 ≤ 255) (h1 : n1 ≤ 63) (h2 : c.time + c.drift < p1) :
    Calls Try.prog 18 #[.pointer (some ⟨b, 0, none⟩), .agg #[.int .u64 p1, .int .u32 l1, .int .u8 n1]] w fun e w' => e = .returned (.int .i64 9) ∧ ClkAt w' b c ∧ Chg (· = b) w w' := by
  obtain ⟨node, time, drift, start, rest, p, l, n⟩ := c
  (try simp only [] at *)
  obtain ⟨g1, g2, g3, g4, g5, g6, g7, g8, g9, g10, g11, g12, g13, g14⟩ := hg
  (try simp only [] at *)
  obtain ⟨k0, k1, k2, k3, k4, k5, k6, k7⟩ := clk_cells hc
  simp only [] at k0 k1 k2 k3 k4 k5 k6 k7
  have hlt : b < w.heap.size := At.lt hc
  have HA := Lib.hid hc
  have f5 := At.free hc 5
  have f6 := At.free hc 6
  have f7 := At.free hc 7
  have f1 := At.free hc 1
  have c1 : decide (64 ≤ n1) = false := by simp; omega
  have c2 : decide (time + drift < p1) = true := by simpa using h2
  clear hc
  go_enter Try.func18, Try.ntmps18
  go_wp2
  go_quiet (fail)
  go_wp2
  go_ret
  have ha : At w b _ _ := HA.out
  refine ⟨rfl, ?_, (by repeat (first | (with_reducible exact chg_refl _ _) | (with_reducible apply chg_drewN) | (with_reducible apply chg_drew) | (with_reducible apply chg_alloc) | (with_reducible refine chg_set ?_ (show (fun x => x = b) b from rfl)) | (with_reducible refine chg_set_new ?_ (Nat.le_refl _)) | (with_reducible refine chg_below ?_ hb1)))⟩
  show At _ _ _ _
  repeat (first | (with_reducible exact ha) | (with_reducible apply at_drewN) | (with_reducible apply at_drew) | (with_reducible apply at_alloc) | (with_reducible apply at_set') | (with_reducible apply at_set_ne (hne := Nat.ne_of_lt hlt)) | (with_reducible apply at_below (k := hb1)))
  all_goals rfl

set_option maxHeartbeats 800000 in
theorem see_new (b : Nat) (c : Clk) (p1 l1 n1 : Int) (w : World) (hc : ClkAt w b c) (hg : Good c) (hp0 : 0 ≤ p1) (hp1 : p1 ≤ 18446744073709551615) (hl0 : 0 ≤ l1) (hl1 : l1 ≤ 4294967295) (hn0 : 0 ≤ n1) (hn1 : n1 ≤ 255) (h1 : n1 ≤ 63) (h2 : p1 ≤ c.time + c.drift) (h3 : cmpS c.p c.l c.n p1 l1 n1 = -1) :
    Calls Try.prog 18 #[.pointer (some ⟨b, 0, none⟩), .agg #[.int .u64 p1, .int .u32 l1, .int .u8 n1]] w fun e w' => e = .returned (.int .i64 0) ∧ ClkAt w' b { c with p := p1, l := l1, n := n1 } ∧ Chg (· = b) w w' := by
  obtain ⟨node, time, drift, start, rest, p, l, n⟩ := c
  (try simp only [] at *)
  obtain ⟨g1, g2, g3, g4, g5, g6, g7, g8, g9, g10, g11, g12, g13, g14⟩ := hg
  (try simp only [] at *)
  obtain ⟨k0, k1, k2, k3, k4, k5, k6, k7⟩ := clk_cells hc
  simp only [] at k0 k1 k2 k3 k4 k5 k6 k7
  have hlt : b < w.heap.size := At.lt hc
  have HA := Lib.hid hc
  have f5 := At.free hc 5
  have f6 := At.free hc 6
  have f7 := At.free hc 7
  have f1 := At.free hc 1
  have c1 : decide (64 ≤ n1) = false := by simp; omega
  have c2 : decide (time + drift < p1) = false := by simpa using h2
  have hlt1 : b < w.heap.size + 1 := by omega
  have h4 := fun w => compare_any p l n p1 l1 n1 w
  rw [h3] at h4
  have H4 := Lib.hid h4
  clear h4 h3
  clear hc
  go_enter Try.func18, Try.ntmps18
  go_wp2
  go_quiet (fail)
  go_wp2
  go_region_held3 (fun W => W.cell? ⟨b, 5, none⟩ = some (.int .u64 p) ∧ W.cell? ⟨b, 6, none⟩ = some (.int .u32 l) ∧ W.cell? ⟨b, 7, none⟩ = some (.int .u8 n) ∧ W.cell? ⟨w.heap.size, 0, none⟩ = some (.int .u64 p1) ∧ W.cell? ⟨w.heap.size, 1, none⟩ = some (.int .u32 l1) ∧ W.cell? ⟨w.heap.size, 2, none⟩ = some (.int .u8 n1)) (go_keep) (first | (go_at_call 10; (with_reducible refine (H4.out _).mono ?_); rintro e w1 ⟨rfl, hb1⟩; obtain ⟨hc1, hf1⟩ := bcell hb1))
  go_wp2
  go_ret
  have ha : At w b _ _ := HA.out
  refine ⟨rfl, ?_, (by repeat (first | (with_reducible exact chg_refl _ _) | (with_reducible apply chg_drewN) | (with_reducible apply chg_drew) | (with_reducible apply chg_alloc) | (with_reducible refine chg_set ?_ (show (fun x => x = b) b from rfl)) | (with_reducible refine chg_set_new ?_ (Nat.le_refl _)) | (with_reducible refine chg_below ?_ hb1)))⟩
  show At _ _ _ _
  repeat (first | (with_reducible exact ha) | (with_reducible apply at_drewN) | (with_reducible apply at_drew) | (with_reducible apply at_alloc) | (with_reducible apply at_set') | (with_reducible apply at_set_ne (hne := Nat.ne_of_lt hlt)) | (with_reducible apply at_below (k := hb1)))
  all_goals rfl

set_option maxHeartbeats 800000 in
theorem see_same (b : Nat) (c : Clk) (p1 l1 n1 : Int) (w : World) (hc : ClkAt w b c) (hg : Good c) (hp0 : 0 ≤ p1) (hp1 : p1 ≤ 18446744073709551615) (hl0 : 0 ≤ l1) (hl1 : l1 ≤ 4294967295) (hn0 : 0 ≤ n1) (hn1 : n1 ≤ 255) (h1 : n1 ≤ 63) (h2 : p1 ≤ c.time + c.drift) (h3 : cmpS c.p c.l c.n p1 l1 n1 = 0) :
    Calls Try.prog 18 #[.pointer (some ⟨b, 0, none⟩), .agg #[.int .u64 p1, .int .u32 l1, .int .u8 n1]] w fun e w' => e = .returned (.int .i64 0) ∧ ClkAt w' b c ∧ Chg (· = b) w w' := by
  obtain ⟨node, time, drift, start, rest, p, l, n⟩ := c
  (try simp only [] at *)
  obtain ⟨g1, g2, g3, g4, g5, g6, g7, g8, g9, g10, g11, g12, g13, g14⟩ := hg
  (try simp only [] at *)
  obtain ⟨k0, k1, k2, k3, k4, k5, k6, k7⟩ := clk_cells hc
  simp only [] at k0 k1 k2 k3 k4 k5 k6 k7
  have hlt : b < w.heap.size := At.lt hc
  have HA := Lib.hid hc
  have f5 := At.free hc 5
  have f6 := At.free hc 6
  have f7 := At.free hc 7
  have f1 := At.free hc 1
  have c1 : decide (64 ≤ n1) = false := by simp; omega
  have c2 : decide (time + drift < p1) = false := by simpa using h2
  have hlt1 : b < w.heap.size + 1 := by omega
  have h4 := fun w => compare_any p l n p1 l1 n1 w
  rw [h3] at h4
  have H4 := Lib.hid h4
  clear h4 h3
  clear hc
  go_enter Try.func18, Try.ntmps18
  go_wp2
  go_quiet (fail)
  go_wp2
  go_region_held3 (fun W => W.cell? ⟨b, 5, none⟩ = some (.int .u64 p) ∧ W.cell? ⟨b, 6, none⟩ = some (.int .u32 l) ∧ W.cell? ⟨b, 7, none⟩ = some (.int .u8 n) ∧ W.cell? ⟨w.heap.size, 0, none⟩ = some (.int .u64 p1) ∧ W.cell? ⟨w.heap.size, 1, none⟩ = some (.int .u32 l1) ∧ W.cell? ⟨w.heap.size, 2, none⟩ = some (.int .u8 n1)) (go_keep) (first | (go_at_call 10; (with_reducible refine (H4.out _).mono ?_); rintro e w1 ⟨rfl, hb1⟩; obtain ⟨hc1, hf1⟩ := bcell hb1))
  go_wp2
  go_ret
  have ha : At w b _ _ := HA.out
  refine ⟨rfl, ?_, (by repeat (first | (with_reducible exact chg_refl _ _) | (with_reducible apply chg_drewN) | (with_reducible apply chg_drew) | (with_reducible apply chg_alloc) | (with_reducible refine chg_set ?_ (show (fun x => x = b) b from rfl)) | (with_reducible refine chg_set_new ?_ (Nat.le_refl _)) | (with_reducible refine chg_below ?_ hb1)))⟩
  show At _ _ _ _
  repeat (first | (with_reducible exact ha) | (with_reducible apply at_drewN) | (with_reducible apply at_drew) | (with_reducible apply at_alloc) | (with_reducible apply at_set') | (with_reducible apply at_set_ne (hne := Nat.ne_of_lt hlt)) | (with_reducible apply at_below (k := hb1)))
  all_goals rfl

set_option maxHeartbeats 800000 in
theorem see_old (b : Nat) (c : Clk) (p1 l1 n1 : Int) (w : World) (hc : ClkAt w b c) (hg : Good c) (hp0 : 0 ≤ p1) (hp1 : p1 ≤ 18446744073709551615) (hl0 : 0 ≤ l1) (hl1 : l1 ≤ 4294967295) (hn0 : 0 ≤ n1) (hn1 : n1 ≤ 255) (h1 : n1 ≤ 63) (h2 : p1 ≤ c.time + c.drift) (h3 : cmpS c.p c.l c.n p1 l1 n1 = 1) :
    Calls Try.prog 18 #[.pointer (some ⟨b, 0, none⟩), .agg #[.int .u64 p1, .int .u32 l1, .int .u8 n1]] w fun e w' => e = .returned (.int .i64 0) ∧ ClkAt w' b c ∧ Chg (· = b) w w' := by
  obtain ⟨node, time, drift, start, rest, p, l, n⟩ := c
  (try simp only [] at *)
  obtain ⟨g1, g2, g3, g4, g5, g6, g7, g8, g9, g10, g11, g12, g13, g14⟩ := hg
  (try simp only [] at *)
  obtain ⟨k0, k1, k2, k3, k4, k5, k6, k7⟩ := clk_cells hc
  simp only [] at k0 k1 k2 k3 k4 k5 k6 k7
  have hlt : b < w.heap.size := At.lt hc
  have HA := Lib.hid hc
  have f5 := At.free hc 5
  have f6 := At.free hc 6
  have f7 := At.free hc 7
  have f1 := At.free hc 1
  have c1 : decide (64 ≤ n1) = false := by simp; omega
  have c2 : decide (time + drift < p1) = false := by simpa using h2
  have hlt1 : b < w.heap.size + 1 := by omega
  have h4 := fun w => compare_any p l n p1 l1 n1 w
  rw [h3] at h4
  have H4 := Lib.hid h4
  clear h4 h3
  clear hc
  go_enter Try.func18, Try.ntmps18
  go_wp2
  go_quiet (fail)
  go_wp2
  go_region_held3 (fun W => W.cell? ⟨b, 5, none⟩ = some (.int .u64 p) ∧ W.cell? ⟨b, 6, none⟩ = some (.int .u32 l) ∧ W.cell? ⟨b, 7, none⟩ = some (.int .u8 n) ∧ W.cell? ⟨w.heap.size, 0, none⟩ = some (.int .u64 p1) ∧ W.cell? ⟨w.heap.size, 1, none⟩ = some (.int .u32 l1) ∧ W.cell? ⟨w.heap.size, 2, none⟩ = some (.int .u8 n1)) (go_keep) (first | (go_at_call 10; (with_reducible refine (H4.out _).mono ?_); rintro e w1 ⟨rfl, hb1⟩; obtain ⟨hc1, hf1⟩ := bcell hb1))
  go_wp2
  go_ret
  have ha : At w b _ _ := HA.out
  refine ⟨rfl, ?_, (by repeat (first | (with_reducible exact chg_refl _ _) | (with_reducible apply chg_drewN) | (with_reducible apply chg_drew) | (with_reducible apply chg_alloc) | (with_reducible refine chg_set ?_ (show (fun x => x = b) b from rfl)) | (with_reducible refine chg_set_new ?_ (Nat.le_refl _)) | (with_reducible refine chg_below ?_ hb1)))⟩
  show At _ _ _ _
  repeat (first | (with_reducible exact ha) | (with_reducible apply at_drewN) | (with_reducible apply at_drew) | (with_reducible apply at_alloc) | (with_reducible apply at_set') | (with_reducible apply at_set_ne (hne := Nat.ne_of_lt hlt)) | (with_reducible apply at_below (k := hb1)))
  all_goals rfl

theorem see_any (b : Nat) (c : Clk) (p1 l1 n1 : Int) (w : World) (hc : ClkAt w b c) (hg : Good c) (hp0 : 0 ≤ p1) (hp1 : p1 ≤ 18446744073709551615) (hl0 : 0 ≤ l1) (hl1 : l1 ≤ 4294967295) (hn0 : 0 ≤ n1) (hn1 : n1 ≤ 255) :
    Calls Try.prog 18 #[.pointer (some ⟨b, 0, none⟩), .agg #[.int .u64 p1, .int .u32 l1, .int .u8 n1]] w fun e w' => e = .returned (.int .i64 (seeC c p1 l1 n1).1) ∧ ClkAt w' b (seeC c p1 l1 n1).2 ∧ Chg (· = b) w w' := by
  unfold seeC
  by_cases h1 : 63 < n1 ∨ c.time + c.drift < p1
  · rw [if_pos h1]
    by_cases h2 : 63 < n1
    · exact see_far b c p1 l1 n1 w hc hg hp0 hp1 hl0 hl1 hn0 hn1 h2
    · exact see_drift b c p1 l1 n1 w hc hg hp0 hp1 hl0 hl1 hn0 hn1 (by omega) (by omega)
  · rw [if_neg h1]
    rcases cmpS_three c.p c.l c.n p1 l1 n1 with h | h | h
    · rw [if_pos h]; exact see_new b c p1 l1 n1 w hc hg hp0 hp1 hl0 hl1 hn0 hn1 (by omega) (by omega) h
    · rw [if_neg (by omega)]; exact see_same b c p1 l1 n1 w hc hg hp0 hp1 hl0 hl1 hn0 hn1 (by omega) (by omega) h
    · rw [if_neg (by omega)]; exact see_old b c p1 l1 n1 w hc hg hp0 hp1 hl0 hl1 hn0 hn1 (by omega) (by omega) h

end Go.Proofs.Ytcidckcdfacplaa.Hlc

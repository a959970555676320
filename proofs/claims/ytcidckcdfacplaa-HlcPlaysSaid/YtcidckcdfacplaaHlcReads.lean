/- Time and Last turn nothing that was there; three cells over a call (own text). -/
import Derived.Test.YtcidckcdfacplaaHlcCut
import Derived.Deep.RegionHeld3
namespace Go.Proofs.Ytcidckcdfacplaa.Hlc
open Go.RowKit Go.Proofs.Ytcidckcdfacplaa.Mem
set_option linter.unusedVariables false
set_option linter.unusedSimpArgs false

set_option maxHeartbeats 400000 in
theorem time_b (b : Nat) (c : Clk) (w : World) (hc : ClkAt w b c) : Calls Try.prog 23 #[.pointer (some ⟨b, 0, none⟩)] w fun e w' => e = .returned (.int .u64 c.time) ∧ Below w.heap.size w w' := by
  obtain ⟨node, time, drift, start, rest, p, l, n⟩ := c
  obtain ⟨k0, k1, k2, k3, k4, k5, k6, k7⟩ := clk_cells hc
  (try simp only [] at *)
  have hlt : b < w.heap.size := At.lt hc
  clear hc
  go_enter Try.func23, Try.ntmps23
  go_wp2
  go_ret
  exact ⟨rfl, by repeat (first | (with_reducible exact Below.refl _ _) | (with_reducible apply below_dn) | (with_reducible apply below_al) | (with_reducible refine below_new ?_ (Nat.le_refl _)))⟩

set_option maxHeartbeats 400000 in
theorem last_b (b : Nat) (c : Clk) (w : World) (hc : ClkAt w b c) : Calls Try.prog 15 #[.pointer (some ⟨b, 0, none⟩)] w fun e w' => e = .returned (.agg #[.int .u64 c.p, .int .u32 c.l, .int .u8 c.n]) ∧ Below w.heap.size w w' := by
  obtain ⟨node, time, drift, start, rest, p, l, n⟩ := c
  obtain ⟨k0, k1, k2, k3, k4, k5, k6, k7⟩ := clk_cells hc
  (try simp only [] at *)
  have hlt : b < w.heap.size := At.lt hc
  clear hc
  go_enter Try.func15, Try.ntmps15
  go_wp2
  go_returns
  exact ⟨rfl, by repeat (first | (with_reducible exact Below.refl _ _) | (with_reducible apply below_dn) | (with_reducible apply below_al) | (with_reducible refine below_new ?_ (Nat.le_refl _)))⟩

theorem c3_start {x : Nat} {v0 v1 v2 : Value} {t : TypeId} {W : World} (h : At W x #[v0, v1, v2] t) : W.cell? ⟨x, 0, none⟩ = some v0 ∧ W.cell? ⟨x, 1, none⟩ = some v1 ∧ W.cell? ⟨x, 2, none⟩ = some v2 := ⟨(at3 h).1, (at3 h).2.1, (at3 h).2.2.1⟩
theorem c3_next {x : Nat} {v0 v1 v2 : Value} {W0 W : World} (h : W0.cell? ⟨x, 0, none⟩ = some v0 ∧ W0.cell? ⟨x, 1, none⟩ = some v1 ∧ W0.cell? ⟨x, 2, none⟩ = some v2) (k : Below W0.heap.size W0 W) : W.cell? ⟨x, 0, none⟩ = some v0 ∧ W.cell? ⟨x, 1, none⟩ = some v1 ∧ W.cell? ⟨x, 2, none⟩ = some v2 := by
  obtain ⟨e0, e1, e2⟩ := h
  have z0 := World.block_lt_of_cell? W0 _ e0
  obtain ⟨hc, hf⟩ := bcell k
  exact ⟨by rw [hc _ _ z0, e0], by rw [hc _ _ z0, e1], by rw [hc _ _ z0, e2]⟩
/-- What Now answers of a clock that rested stands behind all that is no later than its rest. -/
theorem now_later {d : Clk} (hr : d.rest = true) (he : (nowC d).2.1 = 0) (p l n : Int) (hp : p ≤ d.start) : lessS p l n (nowC d).1.1 (nowC d).1.2.1 (nowC d).1.2.2 = true := by
  unfold lessS
  have hlt : p < (nowC d).1.1 := by
    unfold nowC at he ⊢
    split
    · rename_i h; rw [if_pos h] at he; simp at he
    · rename_i h
      have h1 : d.start < d.time := by
        rcases Int.lt_or_le d.start d.time with g | g
        · exact g
        · exact absurd ⟨hr, g⟩ h
      rw [if_neg h] at he
      split
      · simp only []; omega
      · rename_i h2
        rw [if_neg h2] at he
        split
        · rename_i h3; rw [if_pos h3] at he; simp at he
        · simp only []; omega
  have : cmpS p l n (nowC d).1.1 (nowC d).1.2.1 (nowC d).1.2.2 = -1 := by
    unfold cmpS; rw [if_neg (by omega), cmpI_lt hlt]
  rw [this]; rfl
end Go.Proofs.Ytcidckcdfacplaa.Hlc

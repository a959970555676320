/- The law's fixed example, and New at any row of nodes (own text). -/
import Derived.Test.YtnbcbokdbenbiaaAskBehind
namespace Go.Proofs.Ytnbcbokdbenbiaa.Ask
open Go.RowKit Go.Proofs.Ytnbcbokdbenbiaa.Mem Go.Lib Go.Proofs.YtnbcbokdbenbiaaW.PrintWords
set_option linter.unusedVariables false
set_option linter.unusedSimpArgs false
theorem same_loop (l : List Int) (hl : l.length ≤ 1000) : ∀ (d i : Nat), i + d = l.length → PAsk.tattlerref16_Same.l0 (d + 1) l l (l.length : Int) (i : Int) = some true := by
  intro d
  induction d with
  | zero =>
    intro i hi
    unfold PAsk.tattlerref16_Same.l0
    rw [if_neg (by omega)]
  | succ d ih =>
    intro i hi
    unfold PAsk.tattlerref16_Same.l0
    have vw : wrap64 ((i : Int) + 1) = ((i + 1 : Nat) : Int) := by unfold wrap64; omega
    rw [if_pos (by omega), if_pos (by omega), if_pos (by omega), if_pos (by omega), if_pos rfl, vw]
    exact ih (i + 1) (by omega)
theorem same_self (l : List Int) (hl : l.length ≤ 1000) (v v' : Value) (base base' : Nat) (ok ok' : Nat → Prop) (w : World) (h : (Kd.int .u8).R 5 w base ok v l) (h' : (Kd.int .u8).R 5 w base' ok' v' l) :
    Calls Try.prog 12 #[v, v'] w fun e w' => e = .returned (.bool true) ∧ Below w.heap.size w w' := by
  obtain ⟨A, c, rfl⟩ := Kd.R_slice h
  obtain ⟨A', c', rfl⟩ := Kd.R_slice h'
  obtain ⟨_, hc, hC⟩ := Kd.R_reads' h
  obtain ⟨_, hc', hC'⟩ := Kd.R_reads' h'
  refine (PAsk.tattlerref16_Same.calls (l.length + 1) A c l A' c' l true w hC hc hC' hc' ?_).mono ?_
  · unfold PAsk.tattlerref16_Same.f
    rw [if_pos rfl]
    exact same_loop l hl l.length 0 (by omega)
  · rintro e w' ⟨rfl, hd⟩
    exact ⟨rfl, hd.below⟩
set_option maxHeartbeats 1600000 in
theorem new_nil (A : Option Addr) (cap : Nat) (u : Int) (w : World) :
    Calls Try.prog 8 #[.slice A 0 cap, .int .u64 u] w fun e w' => ∃ g, e = .returned (.pointer (some ⟨w.heap.size, 0, none⟩)) ∧ Req w' w.heap.size g u (newA []) ∧ w.heap.size ≤ g ∧ g < w'.heap.size ∧ Below w.heap.size w w' := by
  go_enter Try.func8, Try.ntmps8
  go_wp2_with (fail)
  go_rounds 1
  go_wp2
  go_ret
  exact ⟨w.heap.size, rfl, ⟨_, at_new w #[.slice none 0 0, .int .u64 u] 51, .inl ⟨rfl, rfl⟩, fun h => absurd h (by simp [newA, dedup, fresh]), by simp [newA, dedup, fresh]⟩, Nat.le_refl _, by rw [World.size_alloc]; omega, below_al (Below.refl _ _)⟩
/-- A row of nodes. -/
def Nodes (w : World) (A : Option Addr) (ns : List Int) : Prop := 0 < ns.length → ∃ nb off, A = some ⟨nb, off, none⟩ ∧ nb < w.heap.size ∧ ∀ i (h : i < ns.length), w.cell? ⟨nb, off + i, none⟩ = some (.int .u8 ns[i])
theorem nodes_below {w w' : World} {A : Option Addr} {ns : List Int} (h : Nodes w A ns) (hb : Below w.heap.size w w') : Nodes w' A ns := by
  intro h0
  obtain ⟨nb, off, e, hn, hc⟩ := h h0
  exact ⟨nb, off, e, Nat.lt_of_lt_of_le hn hb.size, fun i hi => (hb.cell (p := ⟨nb, off + i, none⟩) hn).trans (hc i hi)⟩
theorem new_any (ns : List Int) (A : Option Addr) (cap : Nat) (u : Int) (w : World) (hl : ns.length ≤ 100) (hn : Nodes w A ns) :
    Calls Try.prog 8 #[.slice A ns.length cap, .int .u64 u] w fun e w' => ∃ g, e = .returned (.pointer (some ⟨w.heap.size, 0, none⟩)) ∧ Req w' w.heap.size g u (newA ns) ∧ w.heap.size ≤ g ∧ g < w'.heap.size ∧ Below w.heap.size w w' := by
  by_cases h0 : 0 < ns.length
  · obtain ⟨nb, off, rfl, hb, hc⟩ := hn h0
    exact new_row ns nb off cap u w hl hb hc
  · have e : ns = [] := List.eq_nil_of_length_eq_zero (by omega)
    subst e
    exact new_nil A cap u w
def repK : Rep := ⟨true, false, ⟨#[107]⟩, 0, 0, 0, 3, 0, 0, ⟨#[]⟩⟩
def repT : Rep := ⟨true, false, ⟨#[]⟩, 0, 0, 0, 0, 0, 0, ⟨#[]⟩⟩
def fx0 : List An := [⟨1, false, rep0⟩, ⟨2, false, rep0⟩]
def fx2 : List An := [⟨1, true, repK⟩, ⟨2, false, rep0⟩]
def fx3 : List An := [⟨1, true, repK⟩, ⟨2, true, rep0⟩]
theorem fx_new : newA [1, 2] = fx0 := by rfl
theorem fx_take3 : takes 3 fx0 = false := by rfl
theorem fx_take1 : takes 1 fx0 = true := by rfl
theorem fx_l2 : take 1 repK fx0 = fx2 := by rfl
theorem fx_take2 : takes 2 fx2 = true := by rfl
theorem fx_l3 : take 2 rep0 fx2 = fx3 := by rfl
theorem fx_best : bestF fx2 = ⟨repK, true, true⟩ := by rfl
theorem fx_behind2 : behF fx2 = [] := by rfl
theorem fx_behind3 : behF fx3 = [2] := by rfl
theorem fx_yes : yesN fx3 = 1 := by rfl
theorem fx_over0 : comes fx0 = false := by rfl
theorem fx_over3 : comes fx3 = true := by rfl
end Go.Proofs.Ytnbcbokdbenbiaa.Ask

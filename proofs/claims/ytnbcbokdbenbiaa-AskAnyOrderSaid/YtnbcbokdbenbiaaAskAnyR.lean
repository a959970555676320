/- AskAnyOrder: every input (own text). -/
import Derived.Test.YtnbcbokdbenbiaaAskAnyL
import Derived.Test.YtnbcbokdbenbiaaAskU8
namespace Go.Proofs.Ytnbcbokdbenbiaa.Ask
open Go.RowKit Go.Proofs.Ytnbcbokdbenbiaa.Mem Go.Lib Go.Proofs.YtnbcbokdbenbiaaW.PrintWords
set_option linter.unusedVariables false
set_option linter.unusedSimpArgs false
set_option maxRecDepth 100000 in
set_option maxHeartbeats 1600000 in
theorem any_great (A : Option Addr) (len cap : Nat) (v1 v2 : Value) (nk : ByteArray) (w : World) (h : 100 < len ∨ 1000 < nk.size) :
    Calls Try.prog 3 #[.slice A len cap, v1, .string nk, v2] w fun e w' => e = .returned (.bool true) ∧ Below w.heap.size w w' := by
  by_cases h1 : 100 < len
  · have c1 : decide ((100 : Int) < (len : Int)) = true := decide_eq_true (by omega)
    clear h
    go_enter Try.func3, Try.ntmps3
    go_wp2_with ((with_reducible refine (fixed_any _).mono ?_); rintro e w1 ⟨rfl, hb1⟩)
    go_ret
    exact ⟨rfl, hb1⟩
  have c1 : decide ((100 : Int) < (len : Int)) = false := decide_eq_false (by omega)
  have c2 : decide ((1000 : Int) < (nk.size : Int)) = true := decide_eq_true (by omega)
  clear h
  go_enter Try.func3, Try.ntmps3
  go_wp2_with ((with_reducible refine (fixed_any _).mono ?_); rintro e w1 ⟨rfl, hb1⟩)
  go_ret
  exact ⟨rfl, hb1⟩
/-- What the row hands over, as a row of answers. -/
theorem opsIn_of' {w : World} {A : Option Addr} {len cap : Nat} (r : len ≤ cap ∧ cap ≤ maxLen ∧ (0 < len → ∃ b off, A = some ⟨b, off, none⟩ ∧ b < w.heap.size ∧ ∀ i, i < len → ∃ cs, Opener.IsAOp cs ∧ cs.length = 11 ∧ ∀ j, j < 11 → w.cell? ⟨b, off + (i * 11 + j), none⟩ = cs[j]?)) : OpsIn w A len := by
  intro h0
  obtain ⟨b, off, rfl, hb, hc⟩ := r.2.2 h0
  refine ⟨b, off, rfl, hb, fun i hi => ?_⟩
  obtain ⟨cs, ⟨node, has, past, key, p, l, n, kd, fl, ex, bd, rfl, ⟨o0, o1⟩, -⟩, _, hcell⟩ := hc i hi
  refine ⟨(node, ⟨has, past, key, p, l, n, kd, fl, ex, bd⟩), o0, o1, fun j v hj => ?_⟩
  have hj11 : j < 11 := by
    rcases Nat.lt_or_ge j 11 with h | h
    · exact h
    · rw [List.getElem?_eq_none (by rw [opV_len]; exact h)] at hj; cases hj
  rw [hcell j hj11]
  exact hj
theorem any_walk (A : Option Addr) (len cap : Nat) (A1 : Option Addr) (n1 c1 : Nat) (nk : ByteArray) (t : Int) (w : World) (ht : 0 ≤ t ∧ t ≤ 255)
    (h : len ≤ cap ∧ cap ≤ maxLen ∧ (0 < len → ∃ b off, A = some ⟨b, off, none⟩ ∧ b < w.heap.size ∧ ∀ i, i < len → ∃ cs, Opener.IsU8 cs ∧ cs.length = 1 ∧ ∀ j, j < 1 → w.cell? ⟨b, off + (i * 1 + j), none⟩ = cs[j]?))
    (r1 : n1 ≤ c1 ∧ c1 ≤ maxLen ∧ (0 < n1 → ∃ b off, A1 = some ⟨b, off, none⟩ ∧ b < w.heap.size ∧ ∀ i, i < n1 → ∃ cs, Opener.IsAOp cs ∧ cs.length = 11 ∧ ∀ j, j < 11 → w.cell? ⟨b, off + (i * 11 + j), none⟩ = cs[j]?)) :
    Calls Try.prog 3 #[.slice A len cap, .slice A1 n1 c1, .string nk, .int .u8 t] w fun e w' => e = .returned (.bool true) ∧ Below w.heap.size w w' := by
  by_cases hg : 100 < len ∨ 1000 < nk.size
  · exact any_great A len cap _ _ nk w hg
  · obtain ⟨ns, hl, hr, hn⟩ := Opener.nodes_of h
    subst hl
    have m1 := r1.1
    have m2 := r1.2.1
    unfold maxLen at m2
    obtain ⟨t, rfl⟩ := Int.eq_ofNat_of_zero_le ht.1
    exact any_row ns A cap A1 n1 c1 nk t w (by omega) hn (by omega) (by omega) (opsIn_of' r1) (by omega)
end Go.Proofs.Ytnbcbokdbenbiaa.Ask

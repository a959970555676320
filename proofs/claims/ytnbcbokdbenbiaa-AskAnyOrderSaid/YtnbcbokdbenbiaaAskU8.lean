/- A row of nodes that came in, read as a list (own text). -/
import Derived.Test.YtnbcbokdbenbiaaAskOpen
import Derived.Test.YtnbcbokdbenbiaaAskFix
namespace Go.Proofs.Ytnbcbokdbenbiaa.Opener
open Go.RowKit Go.ChangeShapes Go.WideShapes Go.Deep
set_option linter.unusedVariables false
set_option linter.unusedSimpArgs false
theorem cells_U8 : Try.prog.cellsOf 5 = 1 := by kernel_rfl
section
variable {H : Type} {enc : TypeId × Value → H} {w : World} {base : Nat} {spare : Nat → Bool} {held : Bool}
def IsU8 (cs : List Value) : Prop := ∃ n : Int, cs = [.int .u8 n] ∧ 0 ≤ n ∧ n ≤ 255
theorem U8_cells {fuel : Nat} {cs : List Value} {x : DataW H × List MemPlace} (h : DataW.trod enc Try.prog w base spare held fuel 5 cs = some x) : IsU8 cs := by
  obtain ⟨a, e, _, w0⟩ := DataW.trod_int Try.underlying5 h
  exact ⟨a, e, bounds_u8 w0⟩
end
theorem u8_list {w : World} {b off : Nat} : ∀ n : Nat, (∀ i, i < n → ∃ cs, IsU8 cs ∧ cs.length = 1 ∧ ∀ j, j < 1 → w.cell? ⟨b, off + (i * 1 + j), none⟩ = cs[j]?) →
    ∃ l : List Int, l.length = n ∧ (∀ x ∈ l, 0 ≤ x ∧ x ≤ 255) ∧ ∀ i (h : i < l.length), w.cell? ⟨b, off + i, none⟩ = some (.int .u8 l[i]) := by
  intro n
  induction n with
  | zero => intro _; exact ⟨[], rfl, fun x h => by simp at h, fun i h => by simp at h⟩
  | succ n ih =>
    intro h
    obtain ⟨l, hl, hp, hc⟩ := ih (fun i hi => h i (by omega))
    obtain ⟨cs, ⟨x, rfl, x0, x1⟩, _, hcell⟩ := h n (by omega)
    refine ⟨l ++ [x], by rw [List.length_append, hl]; rfl, fun y hy => ?_, fun i hi => ?_⟩
    · rcases List.mem_append.1 hy with h1 | h1
      · exact hp y h1
      · rw [List.mem_singleton.1 h1]; exact ⟨x0, x1⟩
    · rw [List.length_append, List.length_singleton] at hi
      by_cases e : i < l.length
      · rw [List.getElem_append_left e]; exact hc i e
      · have e2 : i = l.length := by omega
        subst e2
        have h2 := hcell 0 (by omega)
        rw [show off + (n * 1 + 0) = off + l.length from by omega] at h2
        rw [h2]
        simp
/-- What the row hands over, as a list of nodes. -/
theorem nodes_of {w : World} {A : Option Addr} {len cap : Nat} (r : len ≤ cap ∧ cap ≤ maxLen ∧ (0 < len → ∃ b off, A = some ⟨b, off, none⟩ ∧ b < w.heap.size ∧ ∀ i, i < len → ∃ cs, IsU8 cs ∧ cs.length = 1 ∧ ∀ j, j < 1 → w.cell? ⟨b, off + (i * 1 + j), none⟩ = cs[j]?)) :
    ∃ ns : List Int, ns.length = len ∧ (∀ x ∈ ns, 0 ≤ x ∧ x ≤ 255) ∧ Ask.Nodes w A ns := by
  by_cases h0 : 0 < len
  · obtain ⟨b, off, rfl, hb, hc⟩ := r.2.2 h0
    obtain ⟨l, hl, hp, hcl⟩ := u8_list len hc
    exact ⟨l, hl, hp, fun _ => ⟨b, off, rfl, hb, hcl⟩⟩
  · exact ⟨[], by simp; omega, fun x h => by simp at h, fun h => by simp at h⟩
end Go.Proofs.Ytnbcbokdbenbiaa.Opener

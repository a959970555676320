/- RecJoins: the walk, out of the printed contract and the plain law (own text). -/
import Derived.Test.YtlohnhjfdmldnaaRecJoinsP
import Derived.Test.YtlohnhjfdmldnaaRecOpen
namespace Go.Proofs.Ytlohnhjfdmldnaa.RecJoinsL
open Go.RowKit Go.Proofs.YtlohnhjfdmldnaaW.PrintWords Go.Proofs.YtlohnhjfdmldnaaW.PrintLast Go.Proofs.YtlohnhjfdmldnaaW.PrintMore Go.Proofs.Ytlohnhjfdmldnaa.PRecJoins
set_option linter.unusedVariables false
set_option linter.unusedSimpArgs false
theorem rows {w : World} {b off : Nat} : ∀ n : Nat, (∀ i, i < n → ∃ cs, Opener.IsRec cs ∧ cs.length = 8 ∧ ∀ j, j < 8 → w.cell? ⟨b, off + (i * 8 + j), none⟩ = cs[j]?) →
    ∃ l : List S27, l.length = n ∧ ∀ (j : Nat) (p : S27), l[j]? = some p → ∃ c : List Value, c.length = 8 ∧ k27.K w p c ∧ ∀ (i : Nat) (u : Value), c[i]? = some u → w.cell? (Addr.add ⟨b, off, none⟩ (j * 8 + i)) = some u := by
  intro n
  induction n with
  | zero => intro _; exact ⟨[], rfl, fun j p h => by simp at h⟩
  | succ n ih =>
    intro h
    obtain ⟨l, hl, hr⟩ := ih (fun i hi => h i (by omega))
    obtain ⟨cs, hc, hlen, hcell⟩ := h n (by omega)
    obtain ⟨key, p0, p1, p2, kd, fl, ex, bd, rfl, _⟩ := hc
    refine ⟨l ++ [⟨key, ⟨p0, p1, p2⟩, kd, fl, ex, bd⟩], by rw [List.length_append, hl]; rfl, fun j p hp => ?_⟩
    rcases Nat.lt_or_ge j l.length with hj | hj
    · rw [List.getElem?_append_left hj] at hp
      exact hr j p hp
    · rw [List.getElem?_append_right hj] at hp
      obtain ⟨rfl, rfl⟩ : j = n ∧ (⟨key, ⟨p0, p1, p2⟩, kd, fl, ex, bd⟩ : S27) = p := by
        rcases Nat.lt_or_ge (j - l.length) 1 with h1 | h1
        · have e : j - l.length = 0 := by omega
          rw [e] at hp
          exact ⟨by omega, by simpa using hp⟩
        · rw [List.getElem?_eq_none (by simpa using h1)] at hp; cases hp
      refine ⟨_, hlen, k27_mk w _, fun i u hu => ?_⟩
      have hi : i < 8 := by
        rcases Nat.lt_or_ge i 8 with h1 | h1
        · exact h1
        · rw [List.getElem?_eq_none (by rw [hlen]; exact h1)] at hu; cases hu
      have h2 := hcell i hi
      rw [hu] at h2
      rw [Go.WideShapes.add_plain]
      exact h2
theorem walk (a0 : ByteArray) (A : Option Addr) (len cap : Nat) (t : Int) (W : World)
    (r : len ≤ cap ∧ cap ≤ maxLen ∧ (0 < len → ∃ b off, A = some ⟨b, off, none⟩ ∧ b < W.heap.size ∧ ∀ i, i < len → ∃ cs, Opener.IsRec cs ∧ cs.length = 8 ∧ ∀ j, j < 8 → W.cell? ⟨b, off + (i * 8 + j), none⟩ = cs[j]?))
    (b2 : 0 ≤ t ∧ t ≤ 255) :
    Calls Try.prog 6 #[.string a0, .slice A len cap, .int .u8 t] W fun e w' => e = .returned (.bool true) ∧ Below W.heap.size W w' := by
  obtain ⟨hlc, hcm, hrow⟩ := r
  unfold maxLen at hcm
  obtain ⟨l, hl, hC⟩ : ∃ l : List S27, l.length = len ∧ Kd.C k27 W A l.length l := by
    by_cases h0 : len = 0
    · exact ⟨[], by rw [h0]; rfl, rfl, by simp, fun h => absurd h (by simp)⟩
    · obtain ⟨b, off, hA, hb, hc⟩ := hrow (by omega)
      obtain ⟨l, hl, hr⟩ := rows len hc
      exact ⟨l, hl, rfl, by omega, fun _ => ⟨_, hA, hr⟩⟩
  obtain ⟨k, hk⟩ := RecJoinsP.law a0 l t b2.1 b2.2
  have h := tattlerlaw06_RecJoins.calls k a0 A cap l t true W hC (by omega) hk
  rw [hl] at h
  exact h
end Go.Proofs.Ytlohnhjfdmldnaa.RecJoinsL

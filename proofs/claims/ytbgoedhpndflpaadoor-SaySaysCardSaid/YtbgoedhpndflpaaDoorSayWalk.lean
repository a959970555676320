/- SayEach and SaySays: the laws' calls answer true (own text). -/
import Derived.Test.YtbgoedhpndflpaaDoorSayLaw
import Derived.Test.YtbgoedhpndflpaaDoorSayRows
namespace Go.Proofs.YtbgoedhpndflpaaDoor.Say
open Go.RowKit Go.Proofs.YtbgoedhpndflpaaDoorW.PrintWords Go.Proofs.YtbgoedhpndflpaaDoor.PSay
set_option linter.unusedVariables false
theorem each_walk (A0 : Option Addr) (len0 cap0 : Nat) (A1 : Option Addr) (len1 cap1 : Nat) (w : World)
    (r0 : len0 ≤ cap0 ∧ cap0 ≤ maxLen ∧ (0 < len0 → ∃ b off, A0 = some ⟨b, off, none⟩ ∧ b < w.heap.size ∧ ∀ i, i < len0 → ∃ cs, Opener.IsRec cs ∧ cs.length = 8 ∧ ∀ j, j < 8 → w.cell? ⟨b, off + (i * 8 + j), none⟩ = cs[j]?))
    (r1 : len1 ≤ cap1 ∧ cap1 ≤ maxLen ∧ (0 < len1 → ∃ b off, A1 = some ⟨b, off, none⟩ ∧ b < w.heap.size ∧ ∀ i, i < len1 → ∃ cs, Opener.IsRec cs ∧ cs.length = 8 ∧ ∀ j, j < 8 → w.cell? ⟨b, off + (i * 8 + j), none⟩ = cs[j]?)) (hT : Tab w) :
    Calls Tryd.prog 4 #[.slice A0 len0 cap0, .slice A1 len1 cap1] w fun e w' => e = .returned (.bool true) ∧ Below w.heap.size w w' := by
  obtain ⟨l0, e0, _, c0, h0⟩ := Opener.recs_of r0
  obtain ⟨l1, e1, _, c1, h1⟩ := Opener.recs_of r1
  subst e0 e1
  exact tattlerlaw09_SayEach.calls 2000 A0 cap0 l0 A1 cap1 l1 true w c0 h0 c1 h1 (each_law l0 l1) hT
theorem says_walk (A0 : Option Addr) (len0 cap0 : Nat) (A1 : Option Addr) (len1 cap1 : Nat) (A2 : Option Addr) (len2 cap2 : Nat) (w : World)
    (r0 : len0 ≤ cap0 ∧ cap0 ≤ maxLen ∧ (0 < len0 → ∃ b off, A0 = some ⟨b, off, none⟩ ∧ b < w.heap.size ∧ ∀ i, i < len0 → ∃ cs, Opener.IsRec cs ∧ cs.length = 8 ∧ ∀ j, j < 8 → w.cell? ⟨b, off + (i * 8 + j), none⟩ = cs[j]?))
    (r1 : len1 ≤ cap1 ∧ cap1 ≤ maxLen ∧ (0 < len1 → ∃ b off, A1 = some ⟨b, off, none⟩ ∧ b < w.heap.size ∧ ∀ i, i < len1 → ∃ cs, Opener.IsString cs ∧ cs.length = 1 ∧ ∀ j, j < 1 → w.cell? ⟨b, off + (i * 1 + j), none⟩ = cs[j]?))
    (r2 : len2 ≤ cap2 ∧ cap2 ≤ maxLen ∧ (0 < len2 → ∃ b off, A2 = some ⟨b, off, none⟩ ∧ b < w.heap.size ∧ ∀ i, i < len2 → ∃ cs, Opener.IsU64 cs ∧ cs.length = 1 ∧ ∀ j, j < 1 → w.cell? ⟨b, off + (i * 1 + j), none⟩ = cs[j]?)) (hT : Tab w) :
    Calls Tryd.prog 5 #[.slice A0 len0 cap0, .slice A1 len1 cap1, .slice A2 len2 cap2] w fun e w' => e = .returned (.bool true) ∧ Below w.heap.size w w' := by
  obtain ⟨l0, e0, _, c0, h0⟩ := Opener.recs_of r0
  obtain ⟨l1, e1, _, c1, h1⟩ := Opener.strs_of r1
  obtain ⟨l2, e2, p2, c2, h2⟩ := Opener.u64s_of r2
  subst e0 e1 e2
  exact tattlerlaw09_SaySays.calls 4000 A0 cap0 l0 A1 cap1 l1 A2 cap2 l2 true w c0 h0 c1 h1 c2 h2 (says_law l0 l1 l2 p2) hT
end Go.Proofs.YtbgoedhpndflpaaDoor.Say

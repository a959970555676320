/- How stamps stand to each other: the program's and the reference's comparison (own text). -/
import Derived.Test.YtnbcbokdbenbiaaMem
namespace Go.Proofs.Ytnbcbokdbenbiaa.Hlc
open Go.RowKit Go.Proofs.Ytnbcbokdbenbiaa.Mem
set_option linter.unusedVariables false
set_option linter.unusedSimpArgs false

/-- How two whole numbers stand to each other. -/
def cmpI (a b : Int) : Int := if a < b then -1 else if b < a then 1 else 0
/-- How two stamps stand to each other. -/
def cmpS (p l n p' l' n' : Int) : Int := if p = p' then (if l = l' then cmpI n n' else cmpI l l') else cmpI p p'
/-- Does a stamp stand ahead of another one? -/
def lessS (p l n p' l' n' : Int) : Bool := decide (cmpS p l n p' l' n' = -1)
theorem cmpI_lt {a b : Int} (h : a < b) : cmpI a b = -1 := if_pos h
theorem cmpI_gt {a b : Int} (h : b < a) : cmpI a b = 1 := by unfold cmpI; rw [if_neg (by omega), if_pos h]
theorem cmpI_eq (a : Int) : cmpI a a = 0 := by unfold cmpI; rw [if_neg (by omega), if_neg (by omega)]
theorem cmpI_neg (a b : Int) : cmpI b a = - cmpI a b := by unfold cmpI; (repeat' split) <;> omega
theorem cmpS_neg (p l n p' l' n' : Int) : cmpS p' l' n' p l n = - cmpS p l n p' l' n' := by
  unfold cmpS
  by_cases h : p = p'
  · rw [if_pos h, if_pos h.symm]
    by_cases g : l = l'
    · rw [if_pos g, if_pos g.symm, cmpI_neg]
    · rw [if_neg g, if_neg (fun e => g e.symm), cmpI_neg]
  · rw [if_neg h, if_neg (fun e => h e.symm), cmpI_neg]
theorem cmpI_zero {a b : Int} (h : cmpI a b = 0) : a = b := by unfold cmpI at h; (repeat' split at h) <;> omega
theorem cmpS_zero {p l n p' l' n' : Int} : cmpS p l n p' l' n' = 0 ↔ p = p' ∧ l = l' ∧ n = n' := by
  unfold cmpS
  constructor
  · intro h
    split at h
    · split at h
      · exact ⟨‹_›, ‹_›, cmpI_zero h⟩
      · exact absurd (cmpI_zero h) ‹_›
    · exact absurd (cmpI_zero h) ‹_›
  · rintro ⟨rfl, rfl, rfl⟩
    rw [if_pos rfl, if_pos rfl, cmpI_eq]
theorem cmpI_three (a b : Int) : cmpI a b = -1 ∨ cmpI a b = 0 ∨ cmpI a b = 1 := by unfold cmpI; (repeat' split) <;> simp
theorem cmpS_three (p l n p' l' n' : Int) : cmpS p l n p' l' n' = -1 ∨ cmpS p l n p' l' n' = 0 ∨ cmpS p l n p' l' n' = 1 := by
  unfold cmpS; (repeat' split) <;> exact cmpI_three _ _
theorem below_two (w : World) (o o' : Obj) : Below w.heap.size w ((w.alloc o).alloc o') := ((Below.refl w.heap.size w).alloc (Nat.le_refl _) _).alloc (by simp) _

set_option maxHeartbeats 400000 in
theorem compare_plt (p l n p' l' n' : Int) (w : World) (h : (p : Int) < p') :
    Calls Try.prog 21 #[.agg #[.int .u64 p, .int .u32 l, .int .u8 n], .agg #[.int .u64 p', .int .u32 l', .int .u8 n']] w fun e w' => e = .returned (.int .i64 (-1)) ∧ Below w.heap.size w w' := by
  have cp1 : (p == p') = false := by simp; omega
  have cp2 : (p != p') = true := by simp; omega
  have cp3 : decide (p < p') = true := by simp; omega
  go_enter Try.func21, Try.ntmps21
  go_wp2
  go_ret
  exact ⟨rfl, below_two _ _ _⟩

set_option maxHeartbeats 400000 in
theorem compare_pgt (p l n p' l' n' : Int) (w : World) (h : p' < (p : Int)) :
    Calls Try.prog 21 #[.agg #[.int .u64 p, .int .u32 l, .int .u8 n], .agg #[.int .u64 p', .int .u32 l', .int .u8 n']] w fun e w' => e = .returned (.int .i64 1) ∧ Below w.heap.size w w' := by
  have cp1 : (p == p') = false := by simp; omega
  have cp2 : (p != p') = true := by simp; omega
  have cp3 : decide (p < p') = false := by simp; omega
  have cp4 : decide (p' < p) = true := by simp; omega
  go_enter Try.func21, Try.ntmps21
  go_wp2
  go_ret
  exact ⟨rfl, below_two _ _ _⟩

set_option maxHeartbeats 400000 in
theorem compare_llt (p l n l' n' : Int) (w : World) (h : (l : Int) < l') :
    Calls Try.prog 21 #[.agg #[.int .u64 p, .int .u32 l, .int .u8 n], .agg #[.int .u64 p, .int .u32 l', .int .u8 n']] w fun e w' => e = .returned (.int .i64 (-1)) ∧ Below w.heap.size w w' := by
  have cl1 : (l == l') = false := by simp; omega
  have cl2 : (l != l') = true := by simp; omega
  have cl3 : decide (l < l') = true := by simp; omega
  go_enter Try.func21, Try.ntmps21
  go_wp2
  go_ret
  exact ⟨rfl, below_two _ _ _⟩

set_option maxHeartbeats 400000 in
theorem compare_lgt (p l n l' n' : Int) (w : World) (h : l' < (l : Int)) :
    Calls Try.prog 21 #[.agg #[.int .u64 p, .int .u32 l, .int .u8 n], .agg #[.int .u64 p, .int .u32 l', .int .u8 n']] w fun e w' => e = .returned (.int .i64 1) ∧ Below w.heap.size w w' := by
  have cl1 : (l == l') = false := by simp; omega
  have cl2 : (l != l') = true := by simp; omega
  have cl3 : decide (l < l') = false := by simp; omega
  have cl4 : decide (l' < l) = true := by simp; omega
  go_enter Try.func21, Try.ntmps21
  go_wp2
  go_ret
  exact ⟨rfl, below_two _ _ _⟩

set_option maxHeartbeats 400000 in
theorem compare_nlt (p l n n' : Int) (w : World) (h : (n : Int) < n') :
    Calls Try.prog 21 #[.agg #[.int .u64 p, .int .u32 l, .int .u8 n], .agg #[.int .u64 p, .int .u32 l, .int .u8 n']] w fun e w' => e = .returned (.int .i64 (-1)) ∧ Below w.heap.size w w' := by
  have cn1 : (n == n') = false := by simp; omega
  have cn2 : (n != n') = true := by simp; omega
  have cn3 : decide (n < n') = true := by simp; omega
  go_enter Try.func21, Try.ntmps21
  go_wp2
  go_ret
  exact ⟨rfl, below_two _ _ _⟩

set_option maxHeartbeats 400000 in
theorem compare_ngt (p l n n' : Int) (w : World) (h : n' < (n : Int)) :
    Calls Try.prog 21 #[.agg #[.int .u64 p, .int .u32 l, .int .u8 n], .agg #[.int .u64 p, .int .u32 l, .int .u8 n']] w fun e w' => e = .returned (.int .i64 1) ∧ Below w.heap.size w w' := by
  have cn1 : (n == n') = false := by simp; omega
  have cn2 : (n != n') = true := by simp; omega
  have cn3 : decide (n < n') = false := by simp; omega
  have cn4 : decide (n' < n) = true := by simp; omega
  go_enter Try.func21, Try.ntmps21
  go_wp2
  go_ret
  exact ⟨rfl, below_two _ _ _⟩

set_option maxHeartbeats 400000 in
theorem compare_eeq (p l n : Int) (w : World) :
    Calls Try.prog 21 #[.agg #[.int .u64 p, .int .u32 l, .int .u8 n], .agg #[.int .u64 p, .int .u32 l, .int .u8 n]] w fun e w' => e = .returned (.int .i64 0) ∧ Below w.heap.size w w' := by
  go_enter Try.func21, Try.ntmps21
  go_wp2
  go_ret
  exact ⟨rfl, below_two _ _ _⟩

theorem compare_any (p l n p' l' n' : Int) (w : World) :
    Calls Try.prog 21 #[.agg #[.int .u64 p, .int .u32 l, .int .u8 n], .agg #[.int .u64 p', .int .u32 l', .int .u8 n']] w fun e w' => e = .returned (.int .i64 (cmpS p l n p' l' n')) ∧ Below w.heap.size w w' := by
  unfold cmpS
  rcases Int.lt_trichotomy p p' with h | rfl | h
  · rw [if_neg (by omega), cmpI_lt h]; exact compare_plt p l n p' l' n' w h
  · rw [if_pos rfl]
    rcases Int.lt_trichotomy l l' with h | rfl | h
    · rw [if_neg (by omega), cmpI_lt h]; exact compare_llt p l n l' n' w h
    · rw [if_pos rfl]
      rcases Int.lt_trichotomy n n' with h | rfl | h
      · rw [cmpI_lt h]; exact compare_nlt p l n n' w h
      · rw [cmpI_eq]; exact compare_eeq p l n w
      · rw [cmpI_gt h]; exact compare_ngt p l n n' w h
    · rw [if_neg (by omega), cmpI_gt h]; exact compare_lgt p l n l' n' w h
  · rw [if_neg (by omega), cmpI_gt h]; exact compare_pgt p l n p' l' n' w h

end Go.Proofs.Ytnbcbokdbenbiaa.Hlc

/- What the given program's num.Put comes to (own text). -/
import Derived.Test.YtlohnhjfdmldnaaNumGet
import Derived.Handy
namespace Go.Proofs.Ytlohnhjfdmldnaa.Num
open Go.RowKit
set_option linter.unusedVariables false
set_option linter.unusedSimpArgs false

theorem conv_new (w : World) (xs : List Int) : (convert 82 9 (.slice (some ⟨w.heap.size, 0, none⟩) xs.length xs.length)).run Try.prog (w.alloc (.cells (xs.map (Value.int .u8)).toArray 5)) = .ok (.string (strOfNums xs)) (w.alloc (.cells (xs.map (Value.int .u8)).toArray 5)) :=
  run_convert_bytes_arg _ _ 5 Try.underlying82 Try.underlying5 w.heap.size 0 xs.length xs.length xs rfl (fun i hi => by
    rw [World.cell?_alloc_new]
    simp [List.getD_eq_getElem?_getD, List.getElem?_eq_getElem hi]) _ Try.underlying9
theorem or_mark (x m : Int) (h0 : 0 ≤ x) (h1 : x < 64) (hm : m = 0 ∨ m = 64 ∨ m = 128 ∨ m = 192) : bits .or .u8 x m = m + x := by
  obtain ⟨a, rfl⟩ := Int.eq_ofNat_of_zero_le h0
  obtain ⟨b, rfl⟩ := Int.eq_ofNat_of_zero_le (show 0 ≤ m by omega)
  have e1 := (bits_nat .u8 8 (by decide) wraps_u8 a b (by omega) (by omega)).2
  have e2 := (bits_nat .u8 8 (by decide) wraps_u8 b a (by omega) (by omega)).2
  have e3 := bits_join .u8 8 (by decide) wraps_u8 6 b a (by omega) (by omega) (by omega) (by omega) (by omega) (by omega)
  rw [e1, Nat.or_comm, ← e2, e3]

set_option maxRecDepth 100000 in
set_option maxHeartbeats 800000 in
theorem put0 (n : Int) (w : World) (h0 : 0 ≤ n) (h1 : n < 64) :
    Calls Try.prog 40 #[.int .u64 n] w fun e w' => e = .returned (.tuple #[.string (strOfNums [n]), .int .i64 0]) ∧ Below w.heap.size w w' := by
  have c1 : decide (4611686018427387904 ≤ n) = false := by simp; omega
  have t0 : decide (64 ≤ n) = false := by simp; omega
  have hmk : ∀ w, (Instr.makeSlice 82 (.int .i64 1) (.int .i64 1)).run Try.prog w = .ok (.slice (some ⟨w.heap.size, 0, none⟩) 1 1) (w.alloc (.cells #[.int .u8 0] 5)) := fun _ => by kernel_rfl
  have hcv : ∀ (x0 : Int), (convert 82 9 (.slice (some ⟨w.heap.size, 0, none⟩) 1 1)).run Try.prog (w.alloc (.cells #[.int .u8 x0] 5)) = .ok (.string (strOfNums [x0])) (w.alloc (.cells #[.int .u8 x0] 5)) := fun x0 => conv_new w [x0]
  go_enter Try.func40, Try.ntmps40
  go_wp2
  go_rounds 1
  go_wp2
  go_rounds 2
  go_wp2
  go_ret2
  exact ⟨by rw [or_mark _ _ (by omega) (by omega) (by simp)]; rw [Int.zero_add]; rfl, (Below.refl _ _).alloc (Nat.le_refl _) _⟩

set_option maxRecDepth 100000 in
set_option maxHeartbeats 800000 in
theorem put1 (n : Int) (w : World) (h0 : 64 ≤ n) (h1 : n < 16384) :
    Calls Try.prog 40 #[.int .u64 n] w fun e w' => e = .returned (.tuple #[.string (strOfNums [64 + (n / 256), n % 256]), .int .i64 0]) ∧ Below w.heap.size w w' := by
  have c1 : decide (4611686018427387904 ≤ n) = false := by simp; omega
  have t0 : decide (64 ≤ n) = true := by simp; omega
  have t1 : decide (16384 ≤ n) = false := by simp; omega
  have hmk : ∀ w, (Instr.makeSlice 82 (.int .i64 2) (.int .i64 2)).run Try.prog w = .ok (.slice (some ⟨w.heap.size, 0, none⟩) 2 2) (w.alloc (.cells #[.int .u8 0, .int .u8 0] 5)) := fun _ => by kernel_rfl
  have hcv : ∀ (x0 x1 : Int), (convert 82 9 (.slice (some ⟨w.heap.size, 0, none⟩) 2 2)).run Try.prog (w.alloc (.cells #[.int .u8 x0, .int .u8 x1] 5)) = .ok (.string (strOfNums [x0, x1])) (w.alloc (.cells #[.int .u8 x0, .int .u8 x1] 5)) := fun x0 x1 => conv_new w [x0, x1]
  go_enter Try.func40, Try.ntmps40
  go_wp2
  go_rounds 2
  go_wp2
  go_rounds 3
  go_wp2
  go_ret2
  exact ⟨by rw [or_mark _ _ (by omega) (by omega) (by simp)]; rfl, (Below.refl _ _).alloc (Nat.le_refl _) _⟩

set_option maxRecDepth 100000 in
set_option maxHeartbeats 800000 in
theorem put2 (n : Int) (w : World) (h0 : 16384 ≤ n) (h1 : n < 1073741824) :
    Calls Try.prog 40 #[.int .u64 n] w fun e w' => e = .returned (.tuple #[.string (strOfNums [128 + (((n / 256) / 256) / 256), ((n / 256) / 256) % 256, (n / 256) % 256, n % 256]), .int .i64 0]) ∧ Below w.heap.size w w' := by
  have c1 : decide (4611686018427387904 ≤ n) = false := by simp; omega
  have t0 : decide (64 ≤ n) = true := by simp; omega
  have t1 : decide (16384 ≤ n) = true := by simp; omega
  have t2 : decide (1073741824 ≤ n) = false := by simp; omega
  have hmk : ∀ w, (Instr.makeSlice 82 (.int .i64 4) (.int .i64 4)).run Try.prog w = .ok (.slice (some ⟨w.heap.size, 0, none⟩) 4 4) (w.alloc (.cells #[.int .u8 0, .int .u8 0, .int .u8 0, .int .u8 0] 5)) := fun _ => by kernel_rfl
  have hcv : ∀ (x0 x1 x2 x3 : Int), (convert 82 9 (.slice (some ⟨w.heap.size, 0, none⟩) 4 4)).run Try.prog (w.alloc (.cells #[.int .u8 x0, .int .u8 x1, .int .u8 x2, .int .u8 x3] 5)) = .ok (.string (strOfNums [x0, x1, x2, x3])) (w.alloc (.cells #[.int .u8 x0, .int .u8 x1, .int .u8 x2, .int .u8 x3] 5)) := fun x0 x1 x2 x3 => conv_new w [x0, x1, x2, x3]
  go_enter Try.func40, Try.ntmps40
  go_wp2
  go_rounds 3
  go_wp2
  go_rounds 5
  go_wp2
  go_ret2
  exact ⟨by rw [or_mark _ _ (by omega) (by omega) (by simp)]; rfl, (Below.refl _ _).alloc (Nat.le_refl _) _⟩

set_option maxRecDepth 100000 in
set_option maxHeartbeats 800000 in
theorem put3 (n : Int) (w : World) (h0 : 1073741824 ≤ n) (h1 : n < 4611686018427387904) :
    Calls Try.prog 40 #[.int .u64 n] w fun e w' => e = .returned (.tuple #[.string (strOfNums [192 + (((((((n / 256) / 256) / 256) / 256) / 256) / 256) / 256), ((((((n / 256) / 256) / 256) / 256) / 256) / 256) % 256, (((((n / 256) / 256) / 256) / 256) / 256) % 256, ((((n / 256) / 256) / 256) / 256) % 256, (((n / 256) / 256) / 256) % 256, ((n / 256) / 256) % 256, (n / 256) % 256, n % 256]), .int .i64 0]) ∧ Below w.heap.size w w' := by
  have c1 : decide (4611686018427387904 ≤ n) = false := by simp; omega
  have t0 : decide (64 ≤ n) = true := by simp; omega
  have t1 : decide (16384 ≤ n) = true := by simp; omega
  have t2 : decide (1073741824 ≤ n) = true := by simp; omega
  have hmk : ∀ w, (Instr.makeSlice 82 (.int .i64 8) (.int .i64 8)).run Try.prog w = .ok (.slice (some ⟨w.heap.size, 0, none⟩) 8 8) (w.alloc (.cells #[.int .u8 0, .int .u8 0, .int .u8 0, .int .u8 0, .int .u8 0, .int .u8 0, .int .u8 0, .int .u8 0] 5)) := fun _ => by kernel_rfl
  have hcv : ∀ (x0 x1 x2 x3 x4 x5 x6 x7 : Int), (convert 82 9 (.slice (some ⟨w.heap.size, 0, none⟩) 8 8)).run Try.prog (w.alloc (.cells #[.int .u8 x0, .int .u8 x1, .int .u8 x2, .int .u8 x3, .int .u8 x4, .int .u8 x5, .int .u8 x6, .int .u8 x7] 5)) = .ok (.string (strOfNums [x0, x1, x2, x3, x4, x5, x6, x7])) (w.alloc (.cells #[.int .u8 x0, .int .u8 x1, .int .u8 x2, .int .u8 x3, .int .u8 x4, .int .u8 x5, .int .u8 x6, .int .u8 x7] 5)) := fun x0 x1 x2 x3 x4 x5 x6 x7 => conv_new w [x0, x1, x2, x3, x4, x5, x6, x7]
  go_enter Try.func40, Try.ntmps40
  go_wp2
  go_rounds 4
  go_wp2
  go_rounds 9
  go_wp2
  go_ret2
  exact ⟨by rw [or_mark _ _ (by omega) (by omega) (by simp)]; rfl, (Below.refl _ _).alloc (Nat.le_refl _) _⟩

end Go.Proofs.Ytlohnhjfdmldnaa.Num

/- New makes an empty table (own text). -/
import Derived.Test.YtkddaedjgbakkaaSumProg
import Derived.Deep.WholeRow
namespace Go.Proofs.Ytkddaedjgbakkaa.Sum
open Go.RowKit Go.Proofs.Ytkddaedjgbakkaa.Mem Go.Proofs.Ytkddaedjgbakkaa.Once
set_option linter.unusedVariables false
set_option linter.unusedSimpArgs false
/-- A table's cells, all empty. -/
def zT : Array Value := #[.int .u32 0, .int .i32 0, .int .u32 0] ++ Array.replicate 256 (.int .u32 0)
theorem zT_info : (Try.prog.info? 60).map (fun i => (i.zero, i.size)) = some (some (.agg zT), 259) := by kernel_rfl
theorem zT_0 : zT[0]? = some (.int .u32 0) := by kernel_rfl
theorem zT_1 : zT[1]? = some (.int .i32 0) := by kernel_rfl
theorem zT_e (i : Nat) (hi : i < 256) : zT[3 + i]? = some (.int .u32 0) := by
  unfold zT
  rw [Array.getElem?_append_right (by simp)]
  simp [hi]
set_option maxRecDepth 100000 in
theorem new_any (w : World) :
    Calls Try.prog 12 #[] w fun e w' => e = .returned (.pointer (some ⟨w.heap.size, 0, none⟩)) ∧ Tb w' w.heap.size 0 0 (fun _ => 0) ∧ Below w.heap.size w w' ∧ w.heap.size < w'.heap.size := by
  have hz := (zero_of_info zT_info).1
  have hs := (zero_of_info zT_info).2
  go_enter Try.func12, Try.ntmps12
  go_wp2_with (fail)
  go_ret
  have hA := at_new w zT 60
  refine ⟨rfl, ⟨?_, ?_, fun i hi => ?_, fun i hi => ?_⟩, below_al (Below.refl _ _), by rw [World.size_alloc]; omega⟩
  · exact (At.cell hA 0).trans zT_0
  · exact (At.cell hA 1).trans zT_1
  · exact (At.cell hA (3 + i)).trans (zT_e i hi)
  · exact At.free hA i
end Go.Proofs.Ytkddaedjgbakkaa.Sum

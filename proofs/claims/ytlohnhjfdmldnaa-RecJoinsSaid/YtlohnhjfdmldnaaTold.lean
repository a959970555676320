/- What the kit's printer is told of library functions that it does not print (own text). -/
import Derived.Test.YtlohnhjfdmldnaaProg
import Derived.Test.YtlohnhjfdmldnaaWMore
import Derived.Lib.Bytealg
import Derived.Lib.Strings
import Derived.Lib.Walk
import Derived.Lib.CountLaws
import Derived.Lib.IndexLaws
import Derived.WalkKit
import Derived.Laws.Externs
import Derived.Lib.Hide
import Derived.Deep.Cut
namespace Go.Proofs.Ytlohnhjfdmldnaa.Told
open Go.RowKit Go.Proofs.YtlohnhjfdmldnaaW.PrintWords
set_option linter.unusedVariables false
set_option linter.unusedSimpArgs false
/-- How two texts stand to each other, byte by byte. -/
def cmpB (a b : ByteArray) : Int := Lib.compareBytes a.data.toList b.data.toList
theorem ext_cmp (a b : ByteArray) (w : World) : (callFunc 57 #[.string a, .string b]).run Try.prog w = .ok (.value (.int .i64 (cmpB a b))) w := by
  rw [run_callFunc_extern (e := Extern.BytealgCompare.compare) Try.func57 (by kernel_rfl) (by kernel_rfl) (by kernel_rfl) (by kernel_rfl), Lib.run_compareString]
  rfl
theorem cmpString (a b : ByteArray) (w : World) : Calls Try.prog 48 #[.string a, .string b] w fun e w' => e = .returned (.int .i64 (cmpB a b)) ∧ Drawn0 w w' := by
  have hx := ext_cmp a b
  go_enter Try.func48, Try.ntmps48
  go_wp2
  go_ret
  exact ⟨rfl, Drawn0.refl _⟩
theorem cmp_str (a b : ByteArray) (w : World) : Calls Try.prog 31 #[.string a, .string b] w fun e w' => e = .returned (.int .i64 (cmpB a b)) ∧ Drawn0 w w' := by
  have hx := Lib.hid (fun w => cmpString a b w)
  go_enter Try.func31, Try.ntmps31
  go_wp2_with (fail)
  refine (hx.out _).mono ?_
  rintro e w1 ⟨rfl, b1⟩
  go_wp2_with (fail)
  go_ret
  exact ⟨rfl, by repeat (first | assumption | apply Drawn0.step)⟩
theorem one_byte {s : ByteArray} (h : s.data.toList.length = 1) : s = ⟨#[s.data.toList.headD 0]⟩ := by
  obtain ⟨⟨l⟩⟩ := s
  match l, h with
  | [c], _ => rfl
end Go.Proofs.Ytlohnhjfdmldnaa.Told

/- The ways through tattlerref07.Parse (printed by wip/tools/gen_refparse.py, a program of this session). -/
import Derived.Test.YtpfggidfcbgaiaaDoorRefSet
namespace Go.Proofs.YtpfggidfcbgaiaaDoor.Cmd
open Go.RowKit Go.Proofs.YtpfggidfcbgaiaaDoorW.PrintWords Go.Proofs.YtpfggidfcbgaiaaDoorW.PrintLast Go.Proofs.YtpfggidfcbgaiaaDoorW.PrintMore Go.Proofs.YtpfggidfcbgaiaaDoor.PCmd Go.Proofs.YtpfggidfcbgaiaaDoor.Split
set_option linter.unusedVariables false
set_option linter.unusedSimpArgs false
theorem R_one {W : World} {base : Nat} {key : ByteArray} (hb : base ≤ W.heap.size) : Kd.R Kd.string 9 (W.alloc (.cells #[.string key] 9)) base (fun _ => True) (.slice (some ⟨W.heap.size, 0, none⟩) 1 1) [key] := by
  refine ⟨fun _ _ => trivial, [.string key], ?_, ?_⟩
  · have h2 := World.ownsRow_lit (base := base) (e := 9) (size := 1) W #[.string key] 1 hb (by decide) rfl
    exact h2
  · exact Reps.one (show Kd.M Kd.string _ _ _ key [.string key] from rfl) (Reps.none _ _)
theorem Q_one_new {W W2 : World} {base : Nat} {key : ByteArray} (h : Same (W.alloc (.cells #[.string key] 9)) W2 W.heap.size) (hb : base ≤ W.heap.size) : Kd.Q Kd.string 9 W2 base (fun _ => True) (.slice (some ⟨W.heap.size, 0, none⟩) 1 1) [key] :=
  Q_same (Kd.Q_of_R (R_one (Nat.le_refl _))) h hb
theorem Q_one_at {W W2 : World} {base g : Nat} {key : ByteArray} (hg : W.heap.size = g) (h : Same (W.alloc (.cells #[.string key] 9)) W2 g) (hb : base ≤ g) : Kd.Q Kd.string 9 W2 base (fun _ => True) (.slice (some ⟨g, 0, none⟩) 1 1) [key] := by
  subst hg; exact Q_one_new h hb
end Go.Proofs.YtpfggidfcbgaiaaDoor.Cmd

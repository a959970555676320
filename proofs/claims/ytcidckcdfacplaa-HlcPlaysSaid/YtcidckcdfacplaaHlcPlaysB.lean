/- HlcPlays answers true, of whatever beginning: the walk, joined (own text). -/
import Derived.Test.YtcidckcdfacplaaHlcPlays
namespace Go.Proofs.Ytcidckcdfacplaa.Hlc
open Go.RowKit Go.Proofs.Ytcidckcdfacplaa.Mem
set_option linter.unusedVariables false
set_option linter.unusedSimpArgs false
set_option maxHeartbeats 400000 in
theorem HlcPlays_bad (node time drift : Int) (rest : Bool) (a : Option Addr) (len cap : Nat) (w : World) (hm : ¬ mayC node time drift) :
    Calls Try.prog 5 #[.int .u8 node, .int .u64 time, .int .i64 drift, .bool rest, .slice a len cap] w fun e w' => e = .returned (.bool true) ∧ Below w.heap.size w w' := by
  have H1 := Lib.hid (progNew_bad node time drift rest w hm)
  have H2 := Lib.hid (fun W => refNew_bad node time drift rest W hm)
  go_enter Try.func5, Try.ntmps5
  go_wp2_with (fail)
  refine H1.out.mono ?_
  rintro e w1 ⟨rfl, h1⟩
  go_wp2_with (fail)
  refine (H2.out _).mono ?_
  rintro e w2 ⟨rfl, h2⟩
  go_wp2_with (go_at_call 9; (with_reducible refine (fixed_any _).mono ?_); rintro e w9 ⟨rfl, hb9⟩)
  go_ret
  exact ⟨rfl, below_on (below_al (below_on h1 h2)) hb9⟩
theorem HlcPlays_walk (node time drift : Int) (rest : Bool) (a : Option Addr) (len cap : Nat) (w : World) (n : 0 ≤ node ∧ node ≤ 255) (t : 0 ≤ time ∧ time ≤ 18446744073709551615) (ho : OpsAt w a len cap) :
    Calls Try.prog 5 #[.int .u8 node, .int .u64 time, .int .i64 drift, .bool rest, .slice a len cap] w fun e w' => e = .returned (.bool true) ∧ Below w.heap.size w w' := by
  by_cases hm : mayC node time drift
  · exact HlcPlays_ok node time drift rest a len cap w n.1 n.2 t.1 t.2 hm ho
  · exact HlcPlays_bad node time drift rest a len cap w hm
end Go.Proofs.Ytcidckcdfacplaa.Hlc

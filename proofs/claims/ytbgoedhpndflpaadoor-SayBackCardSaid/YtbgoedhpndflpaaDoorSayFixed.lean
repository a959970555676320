/- The law's fixed example (own text). -/
import Derived.Test.YtbgoedhpndflpaaDoorSayItems
import Derived.Test.YtbgoedhpndflpaaDoorSayQ2
import Derived.Handy
namespace Go.Proofs.YtbgoedhpndflpaaDoor.Say
open Go.RowKit Go.Proofs.YtbgoedhpndflpaaDoorW.PrintWords Go.Proofs.YtbgoedhpndflpaaDoorW.PrintLast Go.Proofs.YtbgoedhpndflpaaDoorW.PrintMore Go.Proofs.YtbgoedhpndflpaaDoor.PSay
set_option linter.unusedVariables false
set_option linter.unusedSimpArgs false
def fx : S30 := ⟨⟨#[97]⟩, ⟨0, 0, 0⟩, 3, 5, 0, ⟨#[120, 121]⟩⟩
theorem dec5 : decB (flN fx) = ⟨#[53]⟩ := by
  have e : flN fx = 5 := by unfold flN; rw [IntKind.wrap_u64]; rfl
  rw [e, decB_small 5 (by omega)]
  rfl
theorem dec2 : decB fx.f5.size = ⟨#[50]⟩ := by
  show decB 2 = _
  rw [decB_small 2 (by omega)]
  rfl
theorem item_fx : itemB fx = ⟨#[86, 65, 76, 85, 69, 32, 97, 32, 53, 32, 50, 13, 10, 120, 121, 13, 10]⟩ := by
  unfold itemB
  rw [dec5, dec2]
  exact ext_list (by simp only [data_app]; rfl)
theorem items_fx : itemsB [fx] = ⟨#[86, 65, 76, 85, 69, 32, 97, 32, 53, 32, 50, 13, 10, 120, 121, 13, 10, 69, 78, 68, 13, 10]⟩ := by
  unfold itemsB
  show (⟨((itemB fx).data.toList ++ []).toArray⟩ : ByteArray) ++ endB = _
  rw [item_fx]
  exact ext_list (by simp only [data_app]; rfl)
theorem line_fx : say_line.f 9 ⟨#[69, 78, 68, 13, 10]⟩ 0 = some (⟨#[69, 78, 68]⟩, 5, 0) := by kernel_rfl
set_option maxRecDepth 100000 in
set_option maxHeartbeats 3200000 in
theorem read_fx (w : World) : Calls Tryd.prog 10 #[.string ⟨#[69, 78, 68, 13, 10]⟩, .int .i64 0] w fun e w' => e = .returned (.tuple #[.slice none 0 0, .int .i64 5, .int .i64 0]) ∧ Below w.heap.size w w' := by
  have CL := Lib.hid (fun w => say_line.calls 9 ⟨#[69, 78, 68, 13, 10]⟩ 0 ⟨#[69, 78, 68]⟩ 5 0 w line_fx)
  go_enter Tryd.func10, Tryd.ntmps10
  go_wp2_with (fail)
  refine wp_loop_rounds 1 ?_
  rw [rounds_succ]
  go_wp2_with ((with_reducible refine (CL.out _).mono ?_); rintro e w1 ⟨rfl, ⟨nd, rfl⟩⟩)
  go_ret3
  exact ⟨rfl, by repeat (first | exact Below.refl _ _ | apply pw_below_drewN | apply below_drew)⟩
theorem lit_fx {w : World} {g : Nat} (h : w.heap[g]? = some (.cells #[.string ⟨#[97]⟩, .int .u64 0, .int .u32 0, .int .u8 0, .int .u8 3, .int .u32 5, .int .u64 0, .string ⟨#[120, 121]⟩] 30 (0, 0))) : Kd.C k30 w (some ⟨g, 0, none⟩) [fx].length [fx] := by
  have hr : Kd.R k30 30 w 0 (fun _ => True) (.slice (some ⟨g, 0, none⟩) 1 1) [fx] := by
    refine ⟨fun _ _ => trivial, [.string ⟨#[97]⟩, .int .u64 0, .int .u32 0, .int .u8 0, .int .u8 3, .int .u32 5, .int .u64 0, .string ⟨#[120, 121]⟩], ⟨rfl, .inr ⟨g, 1, _, rfl, Nat.zero_le _, h, Nat.le_refl _, (by decide : 1 ≤ maxLen), rfl, rfl⟩⟩, rfl, fun j p hj => ?_⟩
    match j, hj with
    | 0, hj =>
      have e : fx = p := by injection hj
      subst e
      exact k30_mkM w 0 _ fx
    | j + 1, hj => cases hj
  exact (Kd.R_reads' hr).2.2
set_option maxRecDepth 100000 in
set_option maxHeartbeats 3200000 in
theorem fixed_any (w : World) (hT : Tab w) : Calls Tryd.prog 7 #[] w fun e w' => e = .returned (.bool true) ∧ Below w.heap.size w w' := by
  have HT := Lib.hid hT
  have ci := items_c (some ⟨w.heap.size, 0, none⟩) 1 [fx] (w.alloc (.cells #[.string ⟨#[97]⟩, .int .u64 0, .int .u32 0, .int .u8 0, .int .u8 3, .int .u32 5, .int .u64 0, .string ⟨#[120, 121]⟩] 30)) (lit_fx (blk_new _ _)) (Nat.le_refl _) (tab_below hT (below_alloc (Below.refl _ _) _)) (by show 1 ≤ 200; omega) (fun x hx => by
    rw [List.mem_singleton] at hx
    subst hx
    exact ⟨by show 1 ≤ 3000; omega, by show 2 ≤ 3000; omega⟩)
  rw [items_fx, show [fx].length = 1 from rfl] at ci
  have CI := Lib.hid ci
  have CR := Lib.hid (fun w => read_fx w)
  clear ci hT
  go_enter Tryd.func7, Tryd.ntmps7
  go_wp2_with (first
    | (go_at_call 9; (with_reducible refine (CI.out).mono ?_); rintro e w1 ⟨rfl, hb1⟩)
    | (go_at_call 10; (with_reducible refine (CR.out _).mono ?_); rintro e w2 ⟨rfl, hb2⟩))
  go_ret
  exact ⟨rfl, by repeat (first | exact below_step (below_step (below_alloc (Below.refl _ _) _) hb1) hb2 | apply pw_below_drewN | apply below_drew)⟩
end Go.Proofs.YtbgoedhpndflpaaDoor.Say

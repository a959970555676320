/- The two closures, and ContainsFunc over a row of answers (own text). -/
import Derived.Test.YtnbcbokdbenbiaaAskMem
import Derived.Test.YtnbcbokdbenbiaaDraw
namespace Go.Proofs.Ytnbcbokdbenbiaa.Ask
open Go.Shelf Go.RowKit Go.Proofs.Ytnbcbokdbenbiaa.Mem Go.Lib
set_option linter.unusedVariables false
set_option linter.unusedSimpArgs false
shelf_lay_g SlLaysH0.n8 Slgf 8 at Try 15 as lay8
set_option maxHeartbeats 800000 in
/-- 'x.node == n', n in a box. -/
theorem pred_node (n : Int) (B : Nat) (w : World) (hB : B < w.heap.size) (hcell : w.cell? ⟨B, 0, none⟩ = some (.int .u8 n)) :
    PredBelow Try.prog 16 #[.pointer (some ⟨B, 0, none⟩)] (fun x => .agg (ansV x).toArray) (fun x => x.node == n) w := fun W x hb => by
  have hc : W.cell? ⟨B, 0, none⟩ = some (.int .u8 n) := (hb.cell (p := ⟨B, 0, none⟩) hB).trans hcell
  have hBW : B < W.heap.size := Nat.lt_of_lt_of_le hB hb.size
  have hne : B ≠ W.heap.size := by omega
  obtain ⟨node, come, has, past, key, p, l, m, kd, fl, ex, bd⟩ := x
  show Calls Try.prog 16 #[.agg #[.int .u8 node, .bool come, .bool has, .bool past, .string key, .int .u64 p, .int .u32 l, .int .u8 m, .int .u8 kd, .int .u32 fl, .int .u64 ex, .string bd], .pointer (some ⟨B, 0, none⟩)] W _
  clear hcell
  go_enter Try.func16, Try.ntmps16
  go_wp2
  all_goals (go_ret; exact ⟨by simp_all, hb.alloc hb.size _⟩)
set_option maxHeartbeats 800000 in
/-- '!x.come'. -/
theorem pred_come (w : World) : PredBelow Try.prog 18 #[] (fun x => .agg (ansV x).toArray) (fun x => !x.come) w := fun W x hb => by
  obtain ⟨node, come, has, past, key, p, l, m, kd, fl, ex, bd⟩ := x
  show Calls Try.prog 18 #[.agg #[.int .u8 node, .bool come, .bool has, .bool past, .string key, .int .u64 p, .int .u32 l, .int .u8 m, .int .u8 kd, .int .u32 fl, .int .u64 ex, .string bd]] W _
  cases come
  all_goals
    go_enter Try.func18, Try.ntmps18
    go_wp2
    go_ret
    exact ⟨by simp_all, hb.alloc hb.size _⟩
theorem isAggAn (w : World) : (isAgg 54).run Try.prog w = .ok true w := by kernel_rfl
theorem sizeOfAn (w : World) : (Go.sizeOf 54).run Try.prog w = .ok 12 w := by kernel_rfl
set_option maxHeartbeats 800000 in
theorem index_nil (f : Value) (w : World) : Calls Try.prog 19 #[.slice none 0 0, f] w fun e w' => e = .returned (.int .i64 (-1)) ∧ Below w.heap.size w w' := by
  go_enter Try.func19, Try.ntmps19
  go_wp2_with (fail)
  go_rounds 1
  go_wp2
  go_ret
  exact ⟨rfl, Below.refl _ _⟩
set_option maxHeartbeats 800000 in
theorem contains_nil (f : Value) (w : World) : Calls Try.prog 15 #[.slice none 0 0, f] w fun e w' => e = .returned (.bool false) ∧ Below w.heap.size w w' := by
  go_enter Try.func15, Try.ntmps15
  go_wp2_with (go_at_call 19; (with_reducible refine (index_nil _ _).mono ?_); rintro e w1 ⟨rfl, hb1⟩)
  go_ret
  exact ⟨rfl, hb1⟩
/-- ContainsFunc over a row. -/
theorem contains_any (f : Nat) (lb : Array Value) (ef : ∀ args w, (callFunc f args).run Try.prog w = .ok (.enter f args) w) (p : An → Bool) (g : Nat) (v : Value) (l : List An) (w : World) (hr : Row w g v l) (hl : l.length ≤ 1000)
    (hp : PredBelow Try.prog f lb (fun x => .agg (ansV x).toArray) p w) :
    Calls Try.prog 15 #[v, .func (.func f) #[] lb] w fun e w' => e = .returned (.bool (l.any p)) ∧ Below w.heap.size w w' := by
  by_cases h0 : 0 < l.length
  · obtain ⟨cap, rfl, hc, hg⟩ := row_val hr h0
    have h := AnyQ.slices_ContainsFunc lay8 12 isAggAn sizeOfAn ansV (fun _ => rfl) p f lb ef g 0 l.length cap l w hp (Nat.le_refl _) (by omega) hg (fun j hj i v hi => by
      have hi12 : i < 12 := by
        rcases Nat.lt_or_ge i 12 with h | h
        · exact h
        · rw [List.getElem?_eq_none (by rw [ansV_len]; exact h)] at hi; cases hi
      have h1 := row_cell hr j hj i hi12
      rw [getElem!_pos l j hj] at hi
      rw [hi] at h1
      rw [show 0 + j * 12 + i = j * 12 + i from by omega]
      exact h1)
    rw [List.take_length] at h
    exact h
  · rcases hr with ⟨rfl, rfl⟩ | ⟨cap, rest, rfl, h1, _⟩
    · exact contains_nil _ w
    · omega
end Go.Proofs.Ytnbcbokdbenbiaa.Ask

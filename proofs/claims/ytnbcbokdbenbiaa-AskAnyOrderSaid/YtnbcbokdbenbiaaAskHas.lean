/- The two closures, and ContainsFunc over a row of answers (own text). -/
import Derived.Test.YtnbcbokdbenbiaaAskMem
import Derived.Test.YtnbcbokdbenbiaaDraw
namespace Go.Proofs.Ytnbcbokdbenbiaa.Ask
open Go.RowKit Go.Proofs.Ytnbcbokdbenbiaa.Mem Go.Lib
set_option linter.unusedVariables false
set_option linter.unusedSimpArgs false
theorem enters_of {f : FuncId} {fn : Func} (hf : Try.prog.funcs[f]? = some fn) (hname : (fn.name == "runtime.NumGoroutine") = false) (hb : fn.body.isSome = true) : ∀ args w, (callFunc f args).run Try.prog w = .ok (.enter f args) w :=
  fun args w => Go.Proofs.YtnbcbokdbenbiaaW.PrintLast.enters_ hf hname hb args w
/-- What is asked of a closure over answers: it tells p, and leaves all that lay in w. -/
def PredB (f : Nat) (lb : Array Value) (p : An → Bool) (w : World) : Prop :=
  ∀ (W : World) (x : An), Below w.heap.size w W → Calls Try.prog f (#[.agg (ansV x).toArray] ++ lb) W fun e w' => e = .returned (.bool (p x)) ∧ Below w.heap.size w w'
set_option maxHeartbeats 800000 in
/-- 'x.node == n', n in a box. -/
theorem pred_node (n : Int) (B : Nat) (w : World) (hB : B < w.heap.size) (hcell : w.cell? ⟨B, 0, none⟩ = some (.int .u8 n)) :
    PredB 16 #[.pointer (some ⟨B, 0, none⟩)] (fun x => x.node == n) w := fun W x hb => by
  have hc : W.cell? ⟨B, 0, none⟩ = some (.int .u8 n) := (hb.cell (p := ⟨B, 0, none⟩) hB).trans hcell
  have hBW : B < W.heap.size := Nat.lt_of_lt_of_le hB hb.size
  have hne : B ≠ W.heap.size := by omega
  obtain ⟨node, come, has, past, key, p, l, m, kd, fl, ex, bd⟩ := x
  show Calls Try.prog 16 #[.agg #[.int .u8 node, .bool come, .bool has, .bool past, .string key, .int .u64 p, .int .u32 l, .int .u8 m, .int .u8 kd, .int .u32 fl, .int .u64 ex, .string bd], .pointer (some ⟨B, 0, none⟩)] W _
  clear hcell
  go_enter Try.func16, Try.ntmps16
  go_wp2
  all_goals (go_ret; exact ⟨by simp_all, hb.alloc hb.size _⟩)
set_option maxHeartbeats 800000 in
/-- '!x.come'. -/
theorem pred_come (w : World) : PredB 18 #[] (fun x => !x.come) w := fun W x hb => by
  obtain ⟨node, come, has, past, key, p, l, m, kd, fl, ex, bd⟩ := x
  show Calls Try.prog 18 #[.agg #[.int .u8 node, .bool come, .bool has, .bool past, .string key, .int .u64 p, .int .u32 l, .int .u8 m, .int .u8 kd, .int .u32 fl, .int .u64 ex, .string bd]] W _
  cases come
  all_goals
    go_enter Try.func18, Try.ntmps18
    go_wp2
    go_ret
    exact ⟨by simp_all, hb.alloc hb.size _⟩
set_option maxHeartbeats 800000 in
theorem index_nil (f : Value) (w : World) : Calls Try.prog 19 #[.slice none 0 0, f] w fun e w' => e = .returned (.int .i64 (-1)) ∧ Below w.heap.size w w' := by
  go_enter Try.func19, Try.ntmps19
  go_wp2_with (fail)
  go_rounds 1
  go_wp2
  go_ret
  exact ⟨rfl, Below.refl _ _⟩
set_option maxHeartbeats 800000 in
theorem contains_nil (f : Value) (w : World) : Calls Try.prog 15 #[.slice none 0 0, f] w fun e w' => e = .returned (.bool false) ∧ Below w.heap.size w w' := by
  go_enter Try.func15, Try.ntmps15
  go_wp2_with (go_at_call 19; (with_reducible refine (index_nil _ _).mono ?_); rintro e w1 ⟨rfl, hb1⟩)
  go_ret
  exact ⟨rfl, hb1⟩
/-- The cells of an answer, in a row and in a block of its own. -/
theorem row_at {w : World} {g : Nat} {v : Value} {l : List An} (h : Row w g v l) (k : Nat) (hk : k < l.length) :
    w.cell? ⟨g, k * 12, none⟩ = some (.int .u8 l[k].node) ∧ w.cell? ⟨g, k * 12 + 1, none⟩ = some (.bool l[k].come) ∧ w.cell? ⟨g, k * 12 + 2, none⟩ = some (.bool l[k].r.has) ∧ w.cell? ⟨g, k * 12 + 3, none⟩ = some (.bool l[k].r.past) ∧ w.cell? ⟨g, k * 12 + 4, none⟩ = some (.string l[k].r.key) ∧ w.cell? ⟨g, k * 12 + 5, none⟩ = some (.int .u64 l[k].r.p) ∧ w.cell? ⟨g, k * 12 + 6, none⟩ = some (.int .u32 l[k].r.l) ∧ w.cell? ⟨g, k * 12 + 7, none⟩ = some (.int .u8 l[k].r.n) ∧ w.cell? ⟨g, k * 12 + 8, none⟩ = some (.int .u8 l[k].r.kd) ∧ w.cell? ⟨g, k * 12 + 9, none⟩ = some (.int .u32 l[k].r.fl) ∧ w.cell? ⟨g, k * 12 + 10, none⟩ = some (.int .u64 l[k].r.ex) ∧ w.cell? ⟨g, k * 12 + 11, none⟩ = some (.string l[k].r.bd) :=
  ⟨row_cell h k hk 0 (by omega), row_cell h k hk 1 (by omega), row_cell h k hk 2 (by omega), row_cell h k hk 3 (by omega), row_cell h k hk 4 (by omega), row_cell h k hk 5 (by omega), row_cell h k hk 6 (by omega), row_cell h k hk 7 (by omega), row_cell h k hk 8 (by omega), row_cell h k hk 9 (by omega), row_cell h k hk 10 (by omega), row_cell h k hk 11 (by omega)⟩
theorem any_upto (p : An → Bool) (l : List An) (h : ∀ j (hj : j < l.length), p l[j] = false) : l.any p = false := by
  rw [List.any_eq_false]
  intro x hx
  obtain ⟨j, hj, rfl⟩ := List.getElem_of_mem hx
  rw [h j hj]
  simp
theorem any_hit (p : An → Bool) (l : List An) (k : Nat) (hk : k < l.length) (h : p l[k] = true) : l.any p = true := List.any_eq_true.2 ⟨l[k], List.getElem_mem _, h⟩
set_option maxHeartbeats 2000000 in
theorem index_row (f : Nat) (lb : Array Value) (ef : ∀ args w, (callFunc f args).run Try.prog w = .ok (.enter f args) w) (p : An → Bool) (g cap : Nat) (l : List An) (w : World) (hr : Row w g (.slice (some ⟨g, 0, none⟩) l.length cap) l) (hg : g < w.heap.size) (hl : l.length ≤ 1000)
    (hp : PredB f lb p w) :
    Calls Try.prog 19 #[.slice (some ⟨g, 0, none⟩) l.length cap, .func (.func f) #[] lb] w fun e w' => ∃ z : Int, e = .returned (.int .i64 z) ∧ decide (0 ≤ z) = l.any p ∧ Below w.heap.size w w' := by
  have HR := Lib.hid hr
  have HP := Lib.hid hp
  have HA := Lib.hid (any_upto p l)
  have HH := Lib.hid (any_hit p l)
  clear hr hp
  obtain ⟨n, hn⟩ : ∃ n, n = l.length := ⟨_, rfl⟩
  rw [← hn] at hl ⊢
  have HN := Lib.hid hn
  clear hn
  go_enter Try.func19, Try.ntmps19
  go_wp2
  go_loopw [8] (fun v8 w' => ∃ k : Nat, k ≤ n ∧ v8 = .int .i64 k ∧ Hid (∀ j (_ : j < k) (hj : j < l.length), p l[j] = false) ∧ Hid (Below w.heap.size w w')) (fun i _ => n - (intOf i).toNat)
  case atStart => exact ⟨0, by omega, rfl, Lib.hid (fun j hj => by omega), Lib.hid (Below.refl _ _)⟩
  case round =>
    obtain ⟨k, hk, rfl, HZ, HB⟩ := hrel
    by_cases hlt : k < n
    · have hkl : k < l.length := by rw [← HN.out]; exact hlt
      obtain ⟨e0, e1, e2, e3, e4, e5, e6, e7, e8, e9, e10, e11⟩ := row_at (row_below HR.out HB.out) k hkl
      have hcall := HP.out wr l[k] HB.out
      have hh := HH.out k hkl
      have hz : ∀ q, p l[k] = q → q = false → ∀ j (_ : j < k + 1) (hj : j < l.length), p l[j] = false := fun q hq hf j hj hjl => by
        by_cases e : j = k
        · subst e; rw [hq, hf]
        · exact HZ.out j (by omega) hjl
      generalize l[k] = x at e0 e1 e2 e3 e4 e5 e6 e7 e8 e9 e10 e11 hcall hh hz
      have HZ2 := Lib.hid hz
      clear hz
      have HH2 := Lib.hid hh
      clear hh
      generalize hq : p x = q at hcall HH2 HZ2
      have HQ := Lib.hid hq
      clear hq
      obtain ⟨node, come, has, past, key, pp, la, no, kd, fl, ex, bd⟩ := x
      replace hcall : Calls Try.prog f (#[.agg #[.int .u8 node, .bool come, .bool has, .bool past, .string key, .int .u64 pp, .int .u32 la, .int .u8 no, .int .u8 kd, .int .u32 fl, .int .u64 ex, .string bd]] ++ lb) wr _ := hcall
      have CL := Lib.hid hcall
      clear hcall
      cases q with
      | true =>
        go_wp2_with (refine (CL.out).mono ?_; rintro e w' ⟨rfl, hb'⟩)
        go_ret
        exact ⟨(k : Int), rfl, by rw [HH2.out trivial]; exact decide_eq_true (by omega), hb'⟩
      | false =>
        go_wp2_with (refine (CL.out).mono ?_; rintro e w' ⟨rfl, hb'⟩)
        exact ⟨⟨k + 1, by omega, by go_num, Lib.hid (HZ2.out false rfl rfl), Lib.hid hb'⟩, by simp [intOf]; omega⟩
    · obtain rfl : k = n := by omega
      have ha := HA.out (fun j hj => HZ.out j (by rw [HN.out]; exact hj) hj)
      have HA2 := Lib.hid ha
      clear ha
      go_wp2
      go_ret
      exact ⟨-1, rfl, by rw [HA2.out]; rfl, HB.out⟩
set_option maxHeartbeats 2000000 in
theorem contains_row (f : Nat) (lb : Array Value) (b : Bool) (A : Option Addr) (n cap : Nat) (w : World)
    (hi : Calls Try.prog 19 #[.slice A n cap, .func (.func f) #[] lb] w fun e w' => ∃ z : Int, e = .returned (.int .i64 z) ∧ decide (0 ≤ z) = b ∧ Below w.heap.size w w') :
    Calls Try.prog 15 #[.slice A n cap, .func (.func f) #[] lb] w fun e w' => e = .returned (.bool b) ∧ Below w.heap.size w w' := by
  go_enter Try.func15, Try.ntmps15
  go_wp2_with (go_at_call 19; (with_reducible refine (hi).mono ?_); rintro e w1 ⟨z, rfl, hz, hb1⟩)
  go_ret
  exact ⟨by rw [← hz]; rfl, hb1⟩
/-- ContainsFunc over a row. -/
theorem contains_any (f : Nat) (lb : Array Value) (ef : ∀ args w, (callFunc f args).run Try.prog w = .ok (.enter f args) w) (p : An → Bool) (g : Nat) (v : Value) (l : List An) (w : World) (hr : Row w g v l) (hl : l.length ≤ 1000)
    (hp : PredB f lb p w) :
    Calls Try.prog 15 #[v, .func (.func f) #[] lb] w fun e w' => e = .returned (.bool (l.any p)) ∧ Below w.heap.size w w' := by
  by_cases h0 : 0 < l.length
  · obtain ⟨cap, rfl, hc, hg⟩ := row_val hr h0
    exact contains_row f lb _ _ _ _ w (index_row f lb ef p g cap l w hr hg hl hp)
  · rcases hr with ⟨rfl, rfl⟩ | ⟨cap, rest, rfl, h1, _⟩
    · exact contains_nil _ w
    · omega
end Go.Proofs.Ytnbcbokdbenbiaa.Ask

/- A map from nodes to bools that the law makes: which nodes are in it (own text, over the kit's laws of maps). -/
import Derived.Test.YtnbcbokdbenbiaaAskFixed
import Derived.Maps.OwnSet
namespace Go.Proofs.Ytnbcbokdbenbiaa.Ask
open Go.RowKit Go.Proofs.Ytnbcbokdbenbiaa.Mem Go.Lib Go.Maps
set_option linter.unusedVariables false
set_option linter.unusedSimpArgs false
theorem lawU8 : Keyed Try.prog 5 := int_keyed Try.underlying5
theorem zeroB (w : World) : (zeroValue 4).run Try.prog w = .ok (.bool false) w := by kernel_rfl
def Ent (D : DataW Unit) : Prop := ∃ es, D = .map es ∧ ∀ p ∈ es, p.2 = .lit (.bool true) ∧ ∃ m : Int, 0 ≤ m ∧ m ≤ 255 ∧ p.1 = .int .u8 m
/-- Block b is a map in which just the nodes of S stand, each with true. -/
def SetAt (w : World) (b n : Nat) (S : Int → Bool) : Prop := ∃ D : DataW Unit, w.ownsMap Try.prog 5 (plainElem Try.prog 4) b n D ∧ Ent D ∧ ∀ m : Int, 0 ≤ m → m ≤ 255 → D.atKey (.int .u8 m) (.lit (.bool false)) = .lit (.bool (S m))
theorem wfU8 {m : Int} (h0 : 0 ≤ m) (h1 : m ≤ 255) : (Lit.int .u8 m).wf = true := by
  have e0 : IntKind.u8.min = 0 := by decide
  have e1 : IntKind.u8.max = 255 := by decide
  simp [Lit.wf, e0, e1]
  omega
theorem keyU8 {m : Int} (h0 : 0 ≤ m) (h1 : m ≤ 255) : keyOf Try.prog 5 (.int .u8 m) = some (.int .u8 m) := keyOf_int_mk Try.underlying5 (wfU8 h0 h1)
theorem set_made (w : World) : SetAt (w.alloc (.map #[] 0)) w.heap.size 0 (fun _ => false) :=
  ⟨.map [], World.ownsMap_made _ _ _ _, ⟨[], rfl, fun p hp => by simp at hp⟩, fun m _ _ => rfl⟩
theorem set_lt {w : World} {b n : Nat} {S : Int → Bool} (h : SetAt w b n S) : b < w.heap.size := by
  obtain ⟨D, ho, _⟩ := h
  exact ho.lt
theorem set_keep {w w' : World} {b n : Nat} {S : Int → Bool} (h : SetAt w b n S) (hb : w'.heap[b]? = w.heap[b]?) : SetAt w' b n S := by
  obtain ⟨D, ⟨es, clock, hh, r⟩, he, ha⟩ := h
  exact ⟨D, ⟨es, clock, hb.trans hh, r⟩, he, ha⟩
theorem set_below {w w' : World} {b n : Nat} {S : Int → Bool} (h : SetAt w b n S) (k : Below w.heap.size w w') : SetAt w' b n S := set_keep h (k.block b (set_lt h))
theorem set_chg {w w' : World} {b n g : Nat} {S : Int → Bool} (h : SetAt w b n S) (k : Chg (· = g) w w') (hne : b ≠ g) : SetAt w' b n S := set_keep h (k.block b (set_lt h) hne)
theorem plainElem_bool_inv {v : Value} {z : DataW Unit × List MemPlace} (h : plainElem Try.prog 4 v = some z) : ∃ x, v = .bool x ∧ z = (.lit (.bool x), []) := by
  unfold plainElem at h
  rw [Try.underlying4] at h
  cases v <;> simp at h
  exact ⟨_, rfl, h.symm⟩
theorem set_look {w : World} {b n : Nat} {S : Int → Bool} (h : SetAt w b n S) {m : Int} (h0 : 0 ≤ m) (h1 : m ≤ 255) : (Instr.lookup 26 (.map (some b)) (.int .u8 m) false).run Try.prog w = .ok (.bool (S m)) w := by
  obtain ⟨D, ho, _, ha⟩ := h
  obtain ⟨v, ps, hrun, hv⟩ := ho.lookup lawU8 Try.underlying26 (zeroB w) (plainElem_bool Try.underlying4 false) (keyU8 h0 h1)
  rw [ha m h0 h1] at hv
  obtain ⟨x, rfl, hx⟩ := plainElem_bool_inv hv
  simp only [Prod.mk.injEq] at hx
  have : S m = x := by
    have := hx.1
    injection this with h2
    injection h2
  rw [this]
  exact hrun
theorem mem_insert {x p : Lit × DataW Unit} : ∀ l : List (Lit × DataW Unit), p ∈ DataW.insert x l → p = x ∨ p ∈ l
  | [], h => by simp [DataW.insert] at h; exact .inl h
  | y :: r, h => by
    unfold DataW.insert at h
    split at h
    · simpa using h
    · rcases List.mem_cons.1 h with h | h
      · exact .inr (by simp [h])
      · rcases mem_insert r h with h | h
        · exact .inl h
        · exact .inr (List.mem_cons_of_mem _ h)
theorem key_u8 (m : Int) : WideAt.IsKeyLit (.int .u8 m) := by simp [WideAt.IsKeyLit]
theorem ent_put {D : DataW Unit} (h : Ent D) {k : Int} (h0 : 0 ≤ k) (h1 : k ≤ 255) : Ent (D.put (.int .u8 k) (.lit (.bool true))) := by
  obtain ⟨es, rfl, h⟩ := h
  refine ⟨_, rfl, fun p hp => ?_⟩
  rcases mem_insert _ hp with rfl | hp
  · exact ⟨rfl, k, h0, h1, rfl⟩
  · exact h p (List.mem_filter.1 hp).1
theorem ent_del {D : DataW Unit} (h : Ent D) (k : Lit) : Ent (D.del k) := by
  obtain ⟨es, rfl, h⟩ := h
  exact ⟨_, rfl, fun p hp => h p (List.mem_filter.1 hp).1⟩
theorem set_size {D : DataW Unit} {S : Int → Bool} (h : Ent D) (ha : ∀ m : Int, 0 ≤ m → m ≤ 255 → D.atKey (.int .u8 m) (.lit (.bool false)) = .lit (.bool (S m))) : Maps.size D = 0 ↔ ∀ m : Int, 0 ≤ m → m ≤ 255 → S m = false := by
  obtain ⟨es, rfl, he⟩ := h
  constructor
  · intro hz m h0 h1
    have e : es = [] := List.eq_nil_of_length_eq_zero hz
    subst e
    have h2 := ha m h0 h1
    have h3 : (DataW.map [] : DataW Unit).atKey (.int .u8 m) (.lit (.bool false)) = .lit (.bool false) := rfl
    rw [h3] at h2
    injection h2 with h2
    injection h2 with h2
    exact h2.symm
  · intro hs
    cases es with
    | nil => rfl
    | cons p l =>
      exfalso
      obtain ⟨_, m, h0, h1, hk⟩ := he p (List.mem_cons_self ..)
      have h2 := ha m h0 h1
      rw [hs m h0 h1] at h2
      have hf : ∃ q, (p :: l).find? (fun p => p.1.sameKey (.int .u8 m)) = some q ∧ q ∈ p :: l := by
        refine ⟨p, ?_, List.mem_cons_self ..⟩
        rw [List.find?_cons, hk, WideAt.sameKey_self (key_u8 m)]
      obtain ⟨q, hq, hm⟩ := hf
      have h3 : (DataW.map (p :: l)).atKey (.int .u8 m) (.lit (.bool false)) = q.2 := by
        unfold DataW.atKey
        simp only [hq]
      rw [h3, (he q hm).1] at h2
      injection h2 with h2
      injection h2 with h2
      cases h2
theorem set_len {w : World} {b n : Nat} {S : Int → Bool} (h : SetAt w b n S) : ∃ z : Nat, (∀ w' : World, w'.heap[b]? = w.heap[b]? → ∀ ty, (Builtin.len_ #[26] ty #[.map (some b)]).run Try.prog w' = .ok (.int .i64 z) w') ∧ (z = 0 ↔ ∀ m : Int, 0 ≤ m → m ≤ 255 → S m = false) := by
  obtain ⟨D, ⟨es, clock, hh, r⟩, he, ha⟩ := h
  refine ⟨Maps.size D, fun w' hw ty => ?_, set_size he ha⟩
  exact World.ownsMap.len (w := w') ⟨es, clock, hw.trans hh, r⟩ Try.underlying26 ty
section
variable {ops : Array Oper} {rest : List Oper} {o : Oper} {a : Act} {Q : Exit → Act → World → Prop}
theorem wp_set_len (w : World) (hg : o.guard = none) (m : Operand) (hop : o.op = Op.call { callee := Callee.builtin Builtin.len, args := #[m], argTypes := #[26] }) (b : Nat) (hm : a.eval m = .map (some b)) (z : Nat)
    (hz : ∀ ty, (Builtin.len_ #[26] ty #[.map (some b)]).run Try.prog w = .ok (.int .i64 z) w) (hK : wpList Try.prog ops Q rest (a.put o.dst (.int .i64 z)) w) : wpList Try.prog ops Q (o :: rest) a w := by
  refine wpList_plain hg fun K' hK' => ?_
  unfold Oper.wp
  simp [execOp, hop, resolve, invoke, builtin, hm, hz, Result.andThen]
  exact hK' _ _ hK
theorem wp_set_put (w : World) (hg : o.guard = none) (m x v : Operand) (hop : o.op = Op.mapUpdate 26 m x v) (b n : Nat) (S : Int → Bool) (hm : a.eval m = .map (some b)) (hs : SetAt w b n S) (hn : n < 1000000) (k : Int) (h0 : 0 ≤ k) (h1 : k ≤ 255)
    (hx : a.eval x = .int .u8 k) (hv : a.eval v = .bool true) (hK : ∀ w', SetAt w' b (n + 1) (fun m => if m = k then true else S m) → Chg (· = b) w w' → wpList Try.prog ops Q rest (a.put o.dst undef) w') : wpList Try.prog ops Q (o :: rest) a w := by
  obtain ⟨D, ho, he, ha⟩ := hs
  refine wpList_mapUpdate_own w hg m x v 26 hop 5 4 lawU8 Try.underlying26 _ b n D hm ho (by unfold maxLen; omega) _ _ (.int .u8 k) hx hv (keyU8 h0 h1) (.lit (.bool true)) [] (plainElem_bool Try.underlying4 true) ?_
  intro w' ho' hgr
  refine hK w' ⟨_, ho', ent_put he h0 h1, fun j j0 j1 => ?_⟩ ⟨hgr.os, hgr.tape, hgr.output, hgr.size, fun i hi hne => hgr.block i hi (by intro e; injection e with e; exact hne e)⟩
  show _ = DataW.lit (Lit.bool (if j = k then true else S j))
  by_cases e : j = k
  · subst e
    rw [if_pos rfl, atKey_put_same ho.isMap (key_u8 j)]
  · rw [if_neg e, atKey_put_other (by intro h; injection h; contradiction)]
    exact ha j j0 j1
theorem wp_set_del (w : World) (hg : o.guard = none) (m x : Operand) (hop : o.op = Op.call { callee := Callee.builtin Builtin.delete, args := #[m, x], argTypes := #[26, 5] }) (b n : Nat) (S : Int → Bool) (hm : a.eval m = .map (some b)) (hs : SetAt w b n S) (k : Int) (h0 : 0 ≤ k) (h1 : k ≤ 255)
    (hx : a.eval x = .int .u8 k) (hK : ∀ w', SetAt w' b n (fun m => if m = k then false else S m) → Chg (· = b) w w' → wpList Try.prog ops Q rest (a.put o.dst (.tuple #[])) w') : wpList Try.prog ops Q (o :: rest) a w := by
  obtain ⟨D, ho, he, ha⟩ := hs
  refine wpList_delete_own w hg m x 26 5 hop 4 lawU8 Try.underlying26 _ b n D hm ho _ (.int .u8 k) hx (keyU8 h0 h1) ?_
  intro w' ho' hgr
  have hgr := hgr.grown
  refine hK w' ⟨_, ho', ent_del he _, fun j j0 j1 => ?_⟩ ⟨hgr.os, hgr.tape, hgr.output, hgr.size, fun i hi hne => hgr.block i hi (by intro e; injection e with e; exact hne e)⟩
  show _ = DataW.lit (Lit.bool (if j = k then false else S j))
  by_cases e : j = k
  · subst e
    rw [if_pos rfl, atKey_del_same]
  · rw [if_neg e, atKey_del_other (by intro h; injection h; contradiction)]
    exact ha j j0 j1
end
/-! Who waits, said by the nodes. -/
theorem comes_after (ns : List Int) (hr : ∀ n ∈ ns, 0 ≤ n ∧ n ≤ 255) (ops : List (Int × Rep)) : (comes (after ns ops) = true) ↔ ∀ m : Int, 0 ≤ m → m ≤ 255 → takes m (after ns ops) = false := by
  constructor
  · intro h m _ _
    unfold comes at h
    rw [List.all_eq_true] at h
    unfold takes
    rw [List.any_eq_false]
    intro x hx
    simp [waits, h x hx]
  · intro h
    unfold comes
    rw [List.all_eq_true]
    intro x hx
    cases hc : x.come with
    | true => rfl
    | false =>
      exfalso
      have hn : x.node ∈ (after ns ops).map An.node := List.mem_map.2 ⟨x, hx, rfl⟩
      rw [after_nodes] at hn
      have hm := (dedup_mem ns [] x.node).1 hn
      simp at hm
      obtain ⟨a, b⟩ := hr _ hm
      have h2 := h x.node a b
      unfold takes at h2
      rw [List.any_eq_false] at h2
      have h3 := h2 x hx
      simp [waits, hc] at h3
end Go.Proofs.Ytnbcbokdbenbiaa.Ask

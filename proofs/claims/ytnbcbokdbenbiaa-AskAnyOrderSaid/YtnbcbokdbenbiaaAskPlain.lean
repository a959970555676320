/- Asks in plain Lean: the list of answers, and what Take makes of it (own text). -/
import Derived.Test.YtnbcbokdbenbiaaProg
namespace Go.Proofs.Ytnbcbokdbenbiaa.Ask
set_option linter.unusedVariables false
set_option linter.unusedSimpArgs false
/-- What a node answers: has it something, is that over, the record's cells. -/
structure Rep where
  has : Bool
  past : Bool
  key : ByteArray
  p : Int
  l : Int
  n : Int
  kd : Int
  fl : Int
  ex : Int
  bd : ByteArray
/-- A node that is asked. -/
structure An where
  node : Int
  come : Bool
  r : Rep
def rep0 : Rep := ⟨false, false, ⟨#[]⟩, 0, 0, 0, 0, 0, 0, ⟨#[]⟩⟩
def an0 : An := ⟨0, false, rep0⟩
/-- Is an answer still waited for from this node? -/
def waits (n : Int) (x : An) : Bool := x.node == n && !x.come
/-- What a list becomes by an answer. -/
def take (n : Int) (r : Rep) : List An → List An
  | [] => []
  | x :: l => if waits n x = true then { x with come := true, r := r } :: l else x :: take n r l
def takes (n : Int) (l : List An) : Bool := l.any (waits n)
def comes (l : List An) : Bool := l.all (fun x => x.come)
def fresh (ns : List Int) : List An := ns.map fun n => ⟨n, false, rep0⟩
/-- Each node once. -/
def dedup : List Int → List Int → List Int
  | acc, [] => acc
  | acc, n :: l => dedup (if acc.contains n then acc else acc ++ [n]) l
def newA (ns : List Int) : List An := fresh (dedup [] ns)
theorem take_len (n : Int) (r : Rep) (l : List An) : (take n r l).length = l.length := by
  induction l with
  | nil => rfl
  | cons x l ih => unfold take; split <;> simp [ih]
theorem take_nodes (n : Int) (r : Rep) (l : List An) : (take n r l).map An.node = l.map An.node := by
  induction l with
  | nil => rfl
  | cons x l ih => unfold take; split <;> simp [ih]
theorem take_none (n : Int) (r : Rep) (l : List An) (h : takes n l = false) : take n r l = l := by
  induction l with
  | nil => rfl
  | cons x l ih =>
    unfold takes at h
    rw [List.any_cons, Bool.or_eq_false_iff] at h
    unfold take
    rw [if_neg (by rw [h.1]; simp), ih h.2]
/-- The first that waits. -/
theorem take_at (n : Int) (r : Rep) (l : List An) (k : Nat) (hk : k < l.length) (hx : waits n l[k] = true) (hb : ∀ j (hj : j < k), waits n (l[j]'(by omega)) = false) :
    take n r l = l.set k { l[k] with come := true, r := r } := by
  induction l generalizing k with
  | nil => simp at hk
  | cons x l ih =>
    match k with
    | 0 =>
      unfold take
      simp only [List.getElem_cons_zero] at hx
      rw [if_pos hx]
      rfl
    | k + 1 =>
      unfold take
      have h0 := hb 0 (by omega)
      simp only [List.getElem_cons_zero] at h0
      rw [if_neg (by rw [h0]; simp)]
      simp only [List.getElem_cons_succ] at hx
      rw [ih k (by simpa using hk) hx (fun j hj => by have := hb (j + 1) (by omega); simpa using this)]
      rfl
theorem takes_at (n : Int) (l : List An) (k : Nat) (hk : k < l.length) (hx : waits n l[k] = true) : takes n l = true := by
  unfold takes
  rw [List.any_eq_true]
  exact ⟨l[k], List.getElem_mem _, hx⟩
theorem takes_no (n : Int) (l : List An) (hb : ∀ j (hj : j < l.length), waits n l[j] = false) : takes n l = false := by
  unfold takes
  rw [List.any_eq_false]
  intro x hx
  obtain ⟨j, hj, rfl⟩ := List.getElem_of_mem hx
  rw [hb j hj]
  simp
/-- What has been answered first to this node. -/
def first (ops : List (Int × Rep)) (m : Int) : Option Rep := (ops.find? (fun o => o.1 == m)).map (·.2)
def fill (ops : List (Int × Rep)) (x : An) : An := match first ops x.node with | none => x | some r => ⟨x.node, true, r⟩
theorem first_nil (m : Int) : first [] m = none := rfl
theorem first_snoc (ops : List (Int × Rep)) (o : Int × Rep) (m : Int) : first (ops ++ [o]) m = match first ops m with | some r => some r | none => if o.1 = m then some o.2 else none := by
  unfold first
  rw [List.find?_append]
  cases h : ops.find? (fun o => o.1 == m) with
  | some p => rfl
  | none =>
    by_cases e : o.1 = m
    · simp [e]
    · simp [e]
/-- After all these answers. -/
def after (ns : List Int) (ops : List (Int × Rep)) : List An := (newA ns).map (fill ops)
theorem after_nil (ns : List Int) : after ns [] = newA ns := by
  unfold after
  rw [show (newA ns).map (fill []) = (newA ns).map id from List.map_congr_left (fun x _ => rfl), List.map_id]
theorem dedup_nodup : ∀ (l acc : List Int), acc.Nodup → (dedup acc l).Nodup
  | [], acc, h => h
  | n :: l, acc, h => by
    unfold dedup
    apply dedup_nodup l
    split
    · exact h
    · rename_i hc
      rw [List.nodup_append]
      refine ⟨h, by simp, fun a ha b hb e => ?_⟩
      simp only [List.mem_singleton] at hb
      subst hb; subst e
      exact hc (by simpa using ha)
theorem dedup_mem : ∀ (l acc : List Int) (m : Int), m ∈ dedup acc l ↔ m ∈ acc ∨ m ∈ l
  | [], acc, m => by simp [dedup]
  | n :: l, acc, m => by
    unfold dedup
    rw [dedup_mem l]
    by_cases hc : acc.contains n = true
    · rw [if_pos hc]
      have hn : n ∈ acc := by simpa using hc
      constructor
      · rintro (h | h)
        · exact .inl h
        · exact .inr (List.mem_cons_of_mem _ h)
      · rintro (h | h)
        · exact .inl h
        · rcases List.mem_cons.1 h with rfl | h
          · exact .inl hn
          · exact .inr h
    · rw [if_neg hc, List.mem_append]
      constructor
      · rintro ((h | h) | h)
        · exact .inl h
        · exact .inr (by simp at h; simp [h])
        · exact .inr (List.mem_cons_of_mem _ h)
      · rintro (h | h)
        · exact .inl (.inl h)
        · rcases List.mem_cons.1 h with rfl | h
          · exact .inl (.inr (by simp))
          · exact .inr h
theorem dedup_le : ∀ (l acc : List Int), (dedup acc l).length ≤ acc.length + l.length
  | [], acc => by simp [dedup]
  | n :: l, acc => by
    unfold dedup
    have := dedup_le l (if acc.contains n then acc else acc ++ [n])
    have h2 : (if acc.contains n then acc else acc ++ [n]).length ≤ acc.length + 1 := by split <;> simp
    rw [List.length_cons]; omega
theorem newA_le (ns : List Int) : (newA ns).length ≤ ns.length := by
  unfold newA fresh
  rw [List.length_map]
  simpa using dedup_le ns []
theorem after_len (ns : List Int) (ops : List (Int × Rep)) : (after ns ops).length = (newA ns).length := by
  unfold after; rw [List.length_map]
theorem fill_node (ops : List (Int × Rep)) (x : An) : (fill ops x).node = x.node := by
  unfold fill; split <;> rfl
theorem after_nodes (ns : List Int) (ops : List (Int × Rep)) : (after ns ops).map An.node = dedup [] ns := by
  unfold after newA fresh
  rw [List.map_map, List.map_map]
  rw [show (dedup [] ns).map ((An.node ∘ fill ops) ∘ fun n => (⟨n, false, rep0⟩ : An)) = (dedup [] ns).map id from List.map_congr_left (fun x _ => by simp [Function.comp, fill_node]), List.map_id]
/-- Who waits, after these answers: who is asked and has not answered. -/
theorem takes_after (ns : List Int) (ops : List (Int × Rep)) (m : Int) : takes m (after ns ops) = (ns.contains m && (first ops m).isNone) := by
  rw [Bool.eq_iff_iff]
  unfold takes after newA fresh
  rw [List.any_eq_true]
  constructor
  · rintro ⟨x, hx, hw⟩
    rw [List.map_map, List.mem_map] at hx
    obtain ⟨n, hn, rfl⟩ := hx
    have hm := (dedup_mem ns [] n).1 hn
    unfold waits at hw
    simp only [Function.comp, fill_node, Bool.and_eq_true, beq_iff_eq] at hw
    obtain ⟨rfl, hc⟩ := hw
    simp only [List.not_mem_nil, false_or] at hm
    unfold fill at hc
    simp only at hc
    cases hf : first ops n with
    | none => simp [hm]
    | some r => rw [hf] at hc; simp at hc
  · intro h
    rw [Bool.and_eq_true] at h
    have hm : m ∈ ns := by simpa using h.1
    refine ⟨fill ops ⟨m, false, rep0⟩, ?_, ?_⟩
    · rw [List.map_map, List.mem_map]
      exact ⟨m, (dedup_mem ns [] m).2 (.inr hm), rfl⟩
    · unfold fill
      cases hf : first ops m with
      | none => simp [waits]
      | some r => rw [hf] at h; simp at h
theorem map_take_no (n : Int) (r : Rep) (ops : List (Int × Rep)) : ∀ l : List An, (∀ x ∈ l, x.node ≠ n ∨ (fill ops x).come = true) → take n r (l.map (fill ops)) = l.map (fill ops)
  | [], _ => rfl
  | x :: l, h => by
    rw [List.map_cons]
    unfold take
    rw [if_neg ?_, map_take_no n r ops l (fun y hy => h y (List.mem_cons_of_mem _ hy))]
    rcases h x (List.mem_cons_self ..) with h | h
    · simp [waits, fill_node, h]
    · simp [waits, h]
/-- One answer more. -/
theorem take_after (ns : List Int) (ops : List (Int × Rep)) (n : Int) (r : Rep) : take n r (after ns ops) = after ns (ops ++ [(n, r)]) := by
  have hd := dedup_nodup ns [] (by simp)
  unfold after newA fresh
  generalize dedup [] ns = l at hd
  induction l with
  | nil => rfl
  | cons m l ih =>
    rw [List.nodup_cons] at hd
    simp only [List.map_cons]
    by_cases e : m = n
    · subst e
      have hrest : (l.map fun n => (⟨n, false, rep0⟩ : An)).map (fill (ops ++ [(m, r)])) = (l.map fun n => (⟨n, false, rep0⟩ : An)).map (fill ops) := by
        apply List.map_congr_left
        intro x hx
        rw [List.mem_map] at hx
        obtain ⟨k, hk, rfl⟩ := hx
        have hne : m ≠ k := fun e => hd.1 (e ▸ hk)
        unfold fill
        rw [first_snoc]
        cases first ops k with
        | some q => rfl
        | none => simp [hne]
      cases hf : first ops m with
      | none =>
        have h1 : fill ops ⟨m, false, rep0⟩ = ⟨m, false, rep0⟩ := by unfold fill; rw [hf]
        have h2 : fill (ops ++ [(m, r)]) ⟨m, false, rep0⟩ = ⟨m, true, r⟩ := by unfold fill; rw [first_snoc, hf]; simp
        rw [h1, h2]
        unfold take
        rw [if_pos (by simp [waits]), hrest]
      | some q =>
        have h1 : fill ops ⟨m, false, rep0⟩ = ⟨m, true, q⟩ := by unfold fill; rw [hf]
        have h2 : fill (ops ++ [(m, r)]) ⟨m, false, rep0⟩ = ⟨m, true, q⟩ := by unfold fill; rw [first_snoc, hf]
        rw [h1, h2]
        unfold take
        rw [if_neg (by simp [waits]), hrest, map_take_no]
        intro x hx
        rw [List.mem_map] at hx
        obtain ⟨k, hk, rfl⟩ := hx
        exact .inl (fun e => hd.1 (e ▸ hk))
    · have h1 : fill (ops ++ [(n, r)]) ⟨m, false, rep0⟩ = fill ops ⟨m, false, rep0⟩ := by
        unfold fill
        rw [first_snoc]
        have hne : n ≠ m := fun e2 => e e2.symm
        cases first ops m with
        | some q => rfl
        | none => simp [hne]
      rw [h1]
      unfold take
      rw [if_neg (by simp [waits, fill_node, e]), ih hd.2]
end Go.Proofs.Ytnbcbokdbenbiaa.Ask

/- RecJoins, the plain law: a join of any number of records of one key is the greatest one, in any order (own text). -/
import Derived.Test.YtlohnhjfdmldnaaPRecJoinsx6
import Derived.Test.YtlohnhjfdmldnaaRecPlain
namespace Go.Proofs.Ytlohnhjfdmldnaa.RecJoinsP
open Go.RowKit Go.Proofs.YtlohnhjfdmldnaaW.PrintWords Go.Proofs.YtlohnhjfdmldnaaW.PrintLast Go.Proofs.YtlohnhjfdmldnaaW.PrintMore Go.Proofs.Ytlohnhjfdmldnaa.PRecJoins Go.Proofs.Ytlohnhjfdmldnaa.Rec
set_option linter.unusedVariables false
set_option linter.unusedSimpArgs false
theorem w64 {x : Int} (h0 : -9223372036854775808 ≤ x) (h1 : x ≤ 9223372036854775807) : wrap64 x = x := by unfold wrap64; omega
def body (x : S27) : R := ⟨x.f1.f0, x.f1.f1, x.f1.f2, x.f2, x.f3, x.f4, x.f5⟩
def keyed (key : ByteArray) (x : S27) : S27 := ⟨key, ⟨x.f1.f0, x.f1.f1, x.f1.f2⟩, x.f2, x.f3, x.f4, x.f5⟩
def le (x y : S27) : Prop := cmp2 (body x) (body y) ≠ 1
theorem le_refl (x : S27) : le x x := by
  unfold le
  rw [cmp2_zero.2 rfl]; omega
theorem le_trans {x y z : S27} (h : le x y) (g : le y z) : le x z := by
  unfold le at *
  intro e
  have e1 : cmp2 (body z) (body x) = -1 := by rw [cmp2_neg, e]
  rcases cmp2_three (body x) (body y) with h1 | h1 | h1
  · have := cmp2_trans e1 h1
    have h2 := cmp2_neg (body z) (body y)
    rw [this] at h2
    exact g (by rw [h2]; rfl)
  · rw [cmp2_zero] at h1
    rw [h1] at e
    exact g e
  · exact h h1
theorem le_anti {x y : S27} (h : le x y) (g : le y x) : body x = body y := by
  unfold le at *
  refine cmp2_zero.1 ?_
  have := cmp2_neg (body x) (body y)
  rcases cmp2_three (body x) (body y) with h1 | h1 | h1
  · exact absurd (by rw [this, h1]; rfl) g
  · exact h1
  · exact absurd h1 h
def joinS (a b : S27) : S27 := if cmp2 (body a) (body b) = -1 then b else a
theorem join_l (a b : S27) : le a (joinS a b) := by
  unfold joinS
  split
  · rename_i h; unfold le; rw [h]; omega
  · exact le_refl a
theorem join_r (a b : S27) : le b (joinS a b) := by
  unfold joinS
  split
  · exact le_refl b
  · rename_i h
    unfold le
    intro e
    rw [cmp2_neg] at e
    exact h (by omega)
theorem join_self (a : S27) : joinS a a = a := by unfold joinS; split <;> rfl
def flat (x : S27) : ByteArray × Int × Int × Int × Int × Int × Int × ByteArray := (x.f0, x.f1.f0, x.f1.f1, x.f1.f2, x.f2, x.f3, x.f4, x.f5)
theorem join_is (a b : S27) (ha : a.f5.size ≤ 1000000) (hb : b.f5.size ≤ 1000000) :
    rec_Join.f a.f0 a.f1.f0 a.f1.f1 a.f1.f2 a.f2 a.f3 a.f4 a.f5 b.f0 b.f1.f0 b.f1.f1 b.f1.f2 b.f2 b.f3 b.f4 b.f5 = some (flat (joinS a b)) := by
  unfold rec_Join.f joinS
  rw [if_pos ⟨ha, hb⟩]
  have e : cmpR a.f1.f0 a.f1.f1 a.f1.f2 a.f2 a.f3 a.f4 a.f5 b.f1.f0 b.f1.f1 b.f1.f2 b.f2 b.f3 b.f4 b.f5 = cmp2 (body a) (body b) := rfl
  rw [e]
  split <;> rfl
theorem rd_nat (xs : List S27) (j : Nat) : rd_T27 xs (j : Int) = xs.getD j z27 := by
  unfold rd_T27
  rw [Int.toNat_natCast]
/-! ### Is a record greater than is gone through? -/
theorem great_is (x : S27) (k : Nat) (hk : 3 ≤ k) : tattlerlaw06_great.f k [x] = some (decide (5000 < x.f0.size ∨ 5000 < x.f5.size)) := by
  obtain ⟨k, rfl⟩ : ∃ m, k = m + 2 := ⟨k - 2, by omega⟩
  unfold tattlerlaw06_great.f
  have h0 : rd_T27 [x] 0 = x := rfl
  simp only [tattlerlaw06_great.l0, List.length_cons, List.length_nil]
  rw [if_pos (by decide), if_pos (by decide), if_pos (by decide), h0]
  by_cases h1 : (x.f0.size : Int) > 5000
  · rw [if_pos h1, decide_eq_true (Or.inl (by omega))]
  · rw [if_neg h1]
    by_cases h2 : (x.f5.size : Int) > 5000
    · rw [if_pos h2, decide_eq_true (Or.inr (by omega))]
    · rw [if_neg h2, w64 (by decide) (by decide), if_neg (by decide), decide_eq_false (by omega)]
/-! ### The last loop -/
def L2 (k : Nat) (own : List S27) (len i : Int) (a b : S27) : Option Bool := tattlerlaw06_RecJoins.l2 k own len i a.f0 a.f1.f0 a.f1.f1 a.f1.f2 a.f2 a.f3 a.f4 a.f5 b.f0 b.f1.f0 b.f1.f1 b.f1.f2 b.f2 b.f3 b.f4 b.f5
theorem l2_is (own : List S27) (hl : own.length ≤ 50) (hs : ∀ j, j < own.length → (own.getD j z27).f5.size ≤ 5000) (a : S27) (hle : ∀ j, j < own.length → le (own.getD j z27) a) :
    ∀ (d i k : Nat), own.length - i = d → i ≤ own.length → d < k → L2 k own (own.length : Int) (i : Int) a a = some true := by
  intro d
  induction d with
  | zero =>
    intro i k hd hi hk
    obtain ⟨k, rfl⟩ : ∃ m, k = m + 1 := ⟨k - 1, by omega⟩
    simp only [L2, tattlerlaw06_RecJoins.l2]
    rw [if_neg (by omega)]
    simp [tattlerlaw06_fixed.f]
  | succ d ih =>
    intro i k hd hi hk
    obtain ⟨k, rfl⟩ : ∃ m, k = m + 1 := ⟨k - 1, by omega⟩
    have hx := hle i (by omega)
    have hz := hs i (by omega)
    have hn := ih (i + 1) k (by omega) (by omega) (by omega)
    simp only [L2, tattlerlaw06_RecJoins.l2]
    rw [if_pos (by omega), if_pos (by omega), if_pos (by omega), rd_nat]
    generalize own.getD i z27 = x at *
    have e1 : rec_Compare.f x.f0 x.f1.f0 x.f1.f1 x.f1.f2 x.f2 x.f3 x.f4 x.f5 a.f0 a.f1.f0 a.f1.f1 a.f1.f2 a.f2 a.f3 a.f4 a.f5 = some (cmp2 (body x) (body a)) := rfl
    have e2 : ¬ cmp2 (body x) (body a) > 0 := by
      have h3 := cmp2_three (body x) (body a)
      unfold le at hx
      omega
    rw [e1, Option.bind_some, if_neg e2, join_is x x (by omega) (by omega), Option.bind_some, join_self]
    rw [if_neg (by simp [flat]), w64 (by omega) (by omega)]
    exact hn
/-! ### The loop that joins -/
def L1 (k : Nat) (own : List S27) (n len i : Int) (a b : S27) : Option Bool := tattlerlaw06_RecJoins.l1 k own n len i a.f0 a.f1.f0 a.f1.f1 a.f1.f2 a.f2 a.f3 a.f4 a.f5 b.f0 b.f1.f0 b.f1.f1 b.f1.f2 b.f2 b.f3 b.f4 b.f5
theorem tmod_nat (a b : Nat) : Int.tmod (a : Int) (b : Int) = ((a % b : Nat) : Int) := rfl
theorem l1_is (key : ByteArray) (own : List S27) (n : Nat) (hl : own.length ≤ 50) (hn : n < own.length) (hk0 : ∀ j, j < own.length → ∃ y, own.getD j z27 = keyed key y)
    (hs : ∀ j, j < own.length → (own.getD j z27).f5.size ≤ 5000) :
    ∀ (d i k ia ib : Nat), own.length - i = d → i ≤ own.length → d + own.length + 1 < k → ia < own.length → ib < own.length →
      (∀ j, j < i → le (own.getD j z27) (own.getD ia z27)) → (∀ j, j < i → le (own.getD ((n + own.length - j) % own.length) z27) (own.getD ib z27)) →
      L1 k own (n : Int) (own.length : Int) (i : Int) (own.getD ia z27) (own.getD ib z27) = some true := by
  intro d
  induction d with
  | zero =>
    intro i k ia ib hd hi hk ha hb h1 h2
    obtain ⟨k, rfl⟩ : ∃ m, k = m + 1 := ⟨k - 1, by omega⟩
    obtain rfl : i = own.length := by omega
    have h3 : ∀ m, m < own.length → le (own.getD m z27) (own.getD ib z27) := by
      intro m hm
      by_cases hmn : m ≤ n
      · have h4 := h2 (n - m) (by omega)
        have e : (n + own.length - (n - m)) % own.length = m := by
          rw [show n + own.length - (n - m) = own.length + m by omega, Nat.add_mod_left, Nat.mod_eq_of_lt hm]
        rwa [e] at h4
      · have h4 := h2 (n + own.length - m) (by omega)
        have e : (n + own.length - (n + own.length - m)) % own.length = m := by
          rw [show n + own.length - (n + own.length - m) = m by omega, Nat.mod_eq_of_lt hm]
        rwa [e] at h4
    have e : own.getD ia z27 = own.getD ib z27 := by
      have h4 := le_anti (h3 ia ha) (h1 ib hb)
      obtain ⟨y, hy⟩ := hk0 ia ha
      obtain ⟨z, hz⟩ := hk0 ib hb
      rw [hy, hz] at h4 ⊢
      unfold keyed body at *
      simp only [R.mk.injEq] at h4
      obtain ⟨e1, e2, e3, e4, e5, e6, e7⟩ := h4
      rw [e1, e2, e3, e4, e5, e6, e7]
    rw [e] at h1 ⊢
    simp only [L1, tattlerlaw06_RecJoins.l1]
    rw [if_neg (by omega)]
    exact l2_is own hl hs _ h1 own.length 0 k rfl (by omega) (by omega)
  | succ d ih =>
    intro i k ia ib hd hi hk ha hb h1 h2
    obtain ⟨k, rfl⟩ : ∃ m, k = m + 1 := ⟨k - 1, by omega⟩
    have hm : (n + own.length - i) % own.length < own.length := Nat.mod_lt _ (by omega)
    obtain ⟨ja, hja, ea⟩ : ∃ ja, ja < own.length ∧ joinS (own.getD ia z27) (own.getD i z27) = own.getD ja z27 := by
      unfold joinS
      split
      · exact ⟨i, by omega, rfl⟩
      · exact ⟨ia, ha, rfl⟩
    obtain ⟨jb, hjb, eb⟩ : ∃ jb, jb < own.length ∧ joinS (own.getD ((n + own.length - i) % own.length) z27) (own.getD ib z27) = own.getD jb z27 := by
      unfold joinS
      split
      · exact ⟨ib, hb, rfl⟩
      · exact ⟨_, hm, rfl⟩
    have hnext := ih (i + 1) k ja jb (by omega) (by omega) (by omega) hja hjb
      (by
        intro j hj
        by_cases e : j = i
        · subst e; rw [← ea]; exact join_r _ _
        · rw [← ea]; exact le_trans (h1 j (by omega)) (join_l _ _))
      (by
        intro j hj
        by_cases e : j = i
        · subst e; rw [← eb]; exact join_l _ _
        · rw [← eb]; exact le_trans (h2 j (by omega)) (join_r _ _))
    have s1 := hs ia ha
    have s2 := hs i (by omega)
    have s3 := hs _ hm
    have s4 := hs ib hb
    have e0 : wrap64 (wrap64 ((n : Int) + (own.length : Int)) - (i : Int)) = ((n + own.length - i : Nat) : Int) := by
      rw [w64 (x := (n : Int) + (own.length : Int)) (by omega) (by omega), w64 (by omega) (by omega)]; omega
    simp only [L1, tattlerlaw06_RecJoins.l1]
    rw [if_pos (by omega), if_pos (by omega), if_pos (by omega), rd_nat, join_is _ _ (by omega) (by omega), Option.bind_some, if_neg (by omega), e0, tmod_nat, if_pos (by omega), if_pos (by omega), rd_nat, join_is _ _ (by omega) (by omega), Option.bind_some, ea, eb, w64 (by omega) (by omega)]
    exact hnext
/-! ### The loop that takes the key -/
theorem getD_at (l : List S27) (j : Nat) (h : j < l.length) : l.getD j z27 = l[j] := by
  rw [List.getD_eq_getElem?_getD, List.getElem?_eq_getElem h]; rfl
theorem getD_map (key : ByteArray) (l : List S27) (j : Nat) (h : j < l.length) : (l.map (keyed key)).getD j z27 = keyed key (l.getD j z27) := by
  rw [getD_at _ _ (by rw [List.length_map]; exact h), List.getElem_map, getD_at _ _ h]
theorem l0_is (key : ByteArray) (t : Nat) (ht : t ≤ 255) (l : List S27) (hl : l.length ≤ 50) (h0 : 0 < l.length) :
    ∀ (d i k : Nat), l.length - i = d → i ≤ l.length → d + 2 * l.length + 10 < k → (∀ j, j < i → (l.getD j z27).f5.size ≤ 5000) →
      tattlerlaw06_RecJoins.l0 k key (t : Int) ((l.take i).map (keyed key)) l (l.length : Int) (i : Int) = some true := by
  intro d
  induction d with
  | zero =>
    intro i k hd hi hk hs
    obtain ⟨k, rfl⟩ : ∃ m, k = m + 1 := ⟨k - 1, by omega⟩
    obtain rfl : i = l.length := by omega
    rw [List.take_length]
    have hlen : (l.map (keyed key)).length = l.length := List.length_map ..
    have hm : t % l.length < l.length := Nat.mod_lt _ h0
    simp only [tattlerlaw06_RecJoins.l0]
    rw [if_neg (by omega), hlen, if_neg (by omega), if_pos (by omega), w64 (x := (t : Int)) (by omega) (by omega), tmod_nat, if_pos (by omega), if_pos (by omega), rd_nat, show rd_T27 (l.map (keyed key)) 0 = (l.map (keyed key)).getD 0 z27 from rfl]
    have h := l1_is key (l.map (keyed key)) (t % l.length) (by omega) (by omega) (fun j hj => ⟨_, getD_map key l j (by omega)⟩) (fun j hj => by rw [getD_map key l j (by omega)]; exact hs j (by omega)) l.length 0 k 0 (t % l.length) (by omega) (by omega) (by omega) (by omega) (by omega) (by intro j hj; omega) (by intro j hj; omega)
    rw [hlen] at h
    exact h
  | succ d ih =>
    intro i k hd hi hk hs
    obtain ⟨k, rfl⟩ : ∃ m, k = m + 1 := ⟨k - 1, by omega⟩
    have hlen : ((l.take i).map (keyed key)).length = i := by rw [List.length_map, List.length_take]; omega
    simp only [tattlerlaw06_RecJoins.l0]
    rw [if_pos (by omega), if_pos (by omega), if_pos (by omega), rd_nat]
    have ht1 : (l.take (i + 1)).map (keyed key) = (l.take i).map (keyed key) ++ [keyed key (l.getD i z27)] := by
      rw [List.take_succ_eq_append_getElem (by omega), List.map_append, getD_at _ _ (by omega)]; rfl
    have hnext := ih (i + 1) k (by omega) (by omega) (by omega)
    rw [ht1] at hnext
    have hz := hs
    generalize hx : l.getD i z27 = x at *
    rw [great_is _ k (by omega), Option.bind_some]
    by_cases hg : 5000 < x.f0.size ∨ 5000 < x.f5.size
    · rw [decide_eq_true hg, if_pos rfl]; rfl
    · rw [decide_eq_false hg, if_neg (by simp), hlen, if_pos (by omega), w64 (by omega) (by omega)]
      refine hnext (fun j hj => ?_)
      by_cases e : j = i
      · subst e; rw [hx]; omega
      · exact hs j (by omega)
theorem law (key : ByteArray) (l : List S27) (t : Int) (h0 : 0 ≤ t) (h1 : t ≤ 255) : ∃ k, tattlerlaw06_RecJoins.f k key l t = some true := by
  obtain ⟨t, rfl⟩ := Int.eq_ofNat_of_zero_le h0
  refine ⟨3 * l.length + 13, ?_⟩
  have hj : ∀ b, tattlerlaw06_RecJoins.j0 (3 * l.length + 13) key l (t : Int) b = if b = true then some true else tattlerlaw06_RecJoins.l0 (3 * l.length + 12) key (t : Int) [] l (l.length : Int) 0 := fun b => by
    simp only [tattlerlaw06_RecJoins.j0]; rfl
  unfold tattlerlaw06_RecJoins.f
  split
  · rw [hj, if_pos rfl]
  · split
    · rw [hj, if_pos rfl]
    · rw [hj]
      by_cases e : (l.length : Int) = 0
      · rw [if_pos (by simp [e])]
      · rw [if_neg (by simpa using e)]
        exact l0_is key t (by omega) l (by omega) (by omega) l.length 0 _ (by omega) (by omega) (by omega) (by intro j hj; omega)
end Go.Proofs.Ytlohnhjfdmldnaa.RecJoinsP

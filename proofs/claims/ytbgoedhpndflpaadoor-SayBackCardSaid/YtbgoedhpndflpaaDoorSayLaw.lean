/- SayEach and SaySays: the plain law: what the printed functions compute is true (own text). -/
import Derived.Test.YtbgoedhpndflpaaDoorSayPlain
import Derived.Test.YtbgoedhpndflpaaDoorSayQ7
namespace Go.Proofs.YtbgoedhpndflpaaDoor.Say
open Go.RowKit Go.Proofs.YtbgoedhpndflpaaDoorW.PrintWords Go.Proofs.YtbgoedhpndflpaaDoorW.PrintLast Go.Proofs.YtbgoedhpndflpaaDoorW.PrintMore Go.Proofs.YtbgoedhpndflpaaDoor.PSay
set_option linter.unusedVariables false
set_option linter.unusedSimpArgs false
theorem great_l0 (l : List S30) (hl : l.length ≤ 1000) : ∀ d i k, l.length - i = d → i ≤ l.length → d < k → ∃ b, tattlerlaw09_great.l0 k l (l.length : Int) (i : Int) = some b ∧ (b = false → ∀ x, x ∈ l.drop i → SzI x) := by
  intro d
  induction d with
  | zero =>
    intro i k hd hi hk
    obtain ⟨k, rfl⟩ : ∃ m, k = m + 1 := ⟨k - 1, by omega⟩
    obtain rfl : i = l.length := by omega
    simp only [tattlerlaw09_great.l0]
    rw [if_neg (by omega)]
    exact ⟨false, rfl, fun _ x hx => by rw [List.drop_length] at hx; cases hx⟩
  | succ d ih =>
    intro i k hd hi hk
    obtain ⟨k, rfl⟩ : ∃ m, k = m + 1 := ⟨k - 1, by omega⟩
    have h1 : i < l.length := by omega
    have e2 : wrap64 ((i : Int) + 1) = ((i + 1 : Nat) : Int) := by rw [w64 (by omega) (by omega)]; omega
    simp only [tattlerlaw09_great.l0]
    rw [if_pos (by omega), if_pos (by omega), if_pos (by omega), rd_at30 l i h1, e2]
    by_cases h3 : ((l[i].f0.size : Nat) : Int) > 3000
    · rw [if_pos h3]; exact ⟨true, rfl, fun h => by cases h⟩
    · rw [if_neg h3]
      by_cases h4 : ((l[i].f5.size : Nat) : Int) > 3000
      · rw [if_pos h4]; exact ⟨true, rfl, fun h => by cases h⟩
      · rw [if_neg h4]
        obtain ⟨b, e, hb⟩ := ih (i + 1) k (by omega) (by omega) (by omega)
        refine ⟨b, e, fun h x hx => ?_⟩
        rw [List.drop_eq_getElem_cons h1] at hx
        rcases List.mem_cons.1 hx with rfl | hx
        · exact ⟨by omega, by omega⟩
        · exact hb h x hx
theorem great_is (l : List S30) (k : Nat) (hk : 1000 < k) : ∃ b, tattlerlaw09_great.f k l = some b ∧ (b = false → l.length ≤ 100 ∧ ∀ x, x ∈ l → SzI x) := by
  unfold tattlerlaw09_great.f
  by_cases h : (l.length : Int) > 100
  · rw [if_pos h]; exact ⟨true, rfl, fun h => by cases h⟩
  · rw [if_neg h]
    obtain ⟨b, e, hb⟩ := great_l0 l (by omega) l.length 0 k rfl (Nat.zero_le _) (by omega)
    exact ⟨b, e, fun h => ⟨by omega, hb h⟩⟩
theorem items_some (l : List S30) (h1 : l.length ≤ 200) (h2 : ∀ x, x ∈ l → SzI x) : say_Items.f l = some (itemsB l) := by
  unfold say_Items.f
  rw [if_pos ((okI_iff l).2 ⟨h1, h2⟩)]
theorem stats_some (l : List S42) (h1 : l.length ≤ 200) (h2 : ∀ x, x ∈ l → SzS x) : say_Stats.f l = some (statsB l) := by
  unfold say_Stats.f
  rw [if_pos ((okS_iff l).2 ⟨h1, h2⟩)]
theorem itemsB_size (l : List S30) : (itemsB l).size = (itemsL l).length + 5 := by
  unfold itemsB
  rw [ByteArray.size_append]
  show (itemsL l).toArray.size + 5 = _
  rw [List.size_toArray]
theorem items_head (l : List S30) : (itemsB l).extract 0 (itemsL l).length = ⟨(itemsL l).toArray⟩ := by
  apply ext_list
  rw [Split.extract_data, List.drop_zero]
  unfold itemsB
  rw [data_app]
  exact List.take_left' rfl
theorem each_law (l0 l1 : List S30) : tattlerlaw09_SayEach.f 2000 l0 l1 = some true := by
  obtain ⟨b0, e0, h0⟩ := great_is l0 2000 (by omega)
  unfold tattlerlaw09_SayEach.f
  rw [e0, Option.bind_some]
  have hj : ∀ b, tattlerlaw09_SayEach.j0 2000 l0 l1 b = tattlerlaw09_SayEach.j0 (1999 + 1) l0 l1 b := fun _ => rfl
  cases b0 with
  | true =>
    rw [if_pos rfl, hj]
    rw [tattlerlaw09_SayEach.j0]
    rw [if_pos rfl]
    rfl
  | false =>
    obtain ⟨a1, a2⟩ := h0 rfl
    obtain ⟨b1, e1, h1⟩ := great_is l1 2000 (by omega)
    rw [if_neg (by decide), e1, Option.bind_some, hj]
    cases b1 with
    | true =>
      rw [tattlerlaw09_SayEach.j0]
      rw [if_pos rfl]
      rfl
    | false =>
      obtain ⟨c1, c2⟩ := h1 rfl
      have k0 := items_some l0 (by omega) a2
      have k1 := items_some l1 (by omega) c2
      have k2 := items_some (([] ++ l0) ++ l1) (by rw [List.nil_append, List.length_append]; omega) (fun x hx => by
        rw [List.nil_append] at hx
        rcases List.mem_append.1 hx with hx | hx
        · exact a2 x hx
        · exact c2 x hx)
      have s0 := itemsB_size l0
      have s1 := itemsB_size l1
      have n0 := itemsL_len l0 a2
      have n1 := itemsL_len l1 c2
      have ew : wrap64 (((itemsB l0).size : Int) - 5) = ((itemsL l0).length : Int) := by rw [w64 (by omega) (by omega)]; omega
      have hh := items_head l0
      have hz : (⟨(itemsL l0).toArray⟩ : ByteArray).size = (itemsL l0).length := List.size_toArray
      have hf : tattlerlaw09_fixed.f = some true := rfl
      rw [tattlerlaw09_SayEach.j0]
      rw [if_neg (by decide), k0, k1, hf]
      simp only [Option.bind_some]
      rw [if_pos trivial, if_pos (by omega), if_pos (by show 0 + l0.length < _; omega), if_pos (by rw [List.nil_append]; omega), k2]
      simp only [Option.bind_some]
      rw [ew, Int.toNat_natCast, hh, if_pos (by omega), if_pos (by omega), if_pos (by rw [hz]; omega)]
      have he : itemsB (([] ++ l0) ++ l1) = (⟨(itemsL l0).toArray⟩ : ByteArray) ++ itemsB l1 := by
        unfold itemsB
        rw [List.nil_append, itemsL_app]
        apply ext_list
        simp only [data_app, List.append_assoc]
      rw [he, beq_self_eq_true]
theorem says_l0 (l0 : List S30) (h0 : l0.length ≤ 100) (hs : ∀ x, x ∈ l0 → SzI x) (l1 : List ByteArray) (h1 : l1.length ≤ 50) (l2 : List Int) (h2 : ∀ x, x ∈ l2 → 0 ≤ x ∧ x < 18446744073709551616) :
    ∀ (d i k : Nat) (acc : List S42), l1.length - i = d → i ≤ l1.length → 2000 + d < k → acc.length ≤ i → (∀ x, x ∈ acc → SzS x) → tattlerlaw09_SaySays.l0 k l0 l2 acc l1 (l1.length : Int) (i : Int) = some true := by
  intro d
  induction d with
  | zero =>
    intro i k acc hd hi hk ha hc
    obtain ⟨k, rfl⟩ : ∃ m, k = m + 1 := ⟨k - 1, by omega⟩
    obtain rfl : i = l1.length := by omega
    have hf : tattlerlaw09_fixed.f = some true := rfl
    simp only [tattlerlaw09_SaySays.l0]
    rw [if_neg (by omega), hf, items_some l0 (by omega) hs, ref_items_is l0 k (by omega) hs (by omega), stats_some acc (by omega) hc, ref_stats_is acc k (by omega) hc (by omega)]
    simp only [Option.bind_some]
    rw [if_pos trivial, if_pos trivial, beq_self_eq_true]
  | succ d ih =>
    intro i k acc hd hi hk ha hc
    obtain ⟨k, rfl⟩ : ∃ m, k = m + 1 := ⟨k - 1, by omega⟩
    have hi1 : i < l1.length := by omega
    have e2 : wrap64 ((i : Int) + 1) = ((i + 1 : Nat) : Int) := by rw [w64 (by omega) (by omega)]; omega
    have hr : rdOf ByteArray.empty l1 (i : Int) = l1[i] := by
      unfold rdOf
      rw [Int.toNat_natCast, List.getD_eq_getElem?_getD, List.getElem?_eq_getElem hi1]; rfl
    simp only [tattlerlaw09_SaySays.l0]
    rw [if_pos (by omega), if_pos (by omega), if_pos (by omega), hr, e2]
    by_cases h3 : ((l1[i].size : Nat) : Int) > 1000
    · rw [if_pos h3]; rfl
    · rw [if_neg h3]
      have step : ∀ v : Int, 0 ≤ v → v < 18446744073709551616 → tattlerlaw09_SaySays.l0 k l0 l2 (acc ++ [(⟨l1[i], v⟩ : S42)]) l1 (l1.length : Int) ((i + 1 : Nat) : Int) = some true := fun v v0 v1 =>
        ih (i + 1) k _ (by omega) (by omega) (by omega) (by rw [List.length_append]; show acc.length + 1 ≤ i + 1; omega) (fun x hx => by
          rcases List.mem_append.1 hx with hx | hx
          · exact hc x hx
          · rw [List.mem_singleton] at hx
            subst hx
            exact ⟨by show l1[i].size ≤ 1000; omega, v0, v1⟩)
      by_cases h4 : (i : Int) < (l2.length : Int)
      · have hi2 : i < l2.length := by omega
        have hv : rd l2 (i : Int) = l2[i] := by
          unfold rd
          rw [Int.toNat_natCast, List.getD_eq_getElem?_getD, List.getElem?_eq_getElem hi2]; rfl
        obtain ⟨v0, v1⟩ := h2 l2[i] (List.getElem_mem hi2)
        rw [if_pos h4, if_pos (by omega), hv]
        exact step _ v0 v1
      · rw [if_neg h4, if_pos (by omega)]
        exact step 0 (by omega) (by omega)
theorem says_law (l0 : List S30) (l1 : List ByteArray) (l2 : List Int) (h2 : ∀ x, x ∈ l2 → 0 ≤ x ∧ x < 18446744073709551616) : tattlerlaw09_SaySays.f 4000 l0 l1 l2 = some true := by
  obtain ⟨b0, e0, h0⟩ := great_is l0 4000 (by omega)
  have hj : ∀ b, tattlerlaw09_SaySays.j0 4000 l0 l1 l2 b = tattlerlaw09_SaySays.j0 (3999 + 1) l0 l1 l2 b := fun _ => rfl
  unfold tattlerlaw09_SaySays.f
  rw [e0, Option.bind_some]
  cases b0 with
  | true =>
    rw [if_pos rfl, hj]
    rw [tattlerlaw09_SaySays.j0]
    rw [if_pos rfl]
    rfl
  | false =>
    obtain ⟨a1, a2⟩ := h0 rfl
    rw [if_neg (by decide), hj]
    rw [tattlerlaw09_SaySays.j0]
    by_cases h5 : (l1.length : Int) > 50
    · rw [if_pos (decide_eq_true h5)]
      rfl
    · rw [if_neg (by rw [decide_eq_false h5]; decide)]
      exact says_l0 l0 a1 a2 l1 (by omega) l2 h2 l1.length 0 3999 [] rfl (Nat.zero_le _) (by omega) (Nat.le_refl _) (fun x hx => by cases hx)
end Go.Proofs.YtbgoedhpndflpaaDoor.Say

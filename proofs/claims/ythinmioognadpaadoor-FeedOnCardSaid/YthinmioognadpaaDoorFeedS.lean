/- Merged of CmdSm, FeedSame (own text; wip/tools/merge.py). -/
import Derived.Test.YthinmioognadpaaDoorPCmdx6
import Derived.Test.YthinmioognadpaaDoorPCmdx7
import Derived.Test.YthinmioognadpaaDoorCmdC
import Derived.Test.YthinmioognadpaaDoorFeedD
/- Are two commands the same: what the printed functions compute (own text; the first part of CmdSame). -/
namespace Go.Proofs.YthinmioognadpaaDoor.Cmd
open Go.RowKit Go.Proofs.YthinmioognadpaaDoorW.PrintWords Go.Proofs.YthinmioognadpaaDoorW.PrintLast Go.Proofs.YthinmioognadpaaDoorW.PrintMore Go.Proofs.YthinmioognadpaaDoor.PCmd Go.Proofs.YthinmioognadpaaDoor.Split
set_option linter.unusedVariables false
set_option linter.unusedSimpArgs false
theorem str_iff (a b : ByteArray) : a.toList = b.toList ↔ a = b := by
  rw [toList_eq, toList_eq]
  exact ⟨fun h => ext_list h, fun h => by rw [h]⟩
theorem rd_at (l : List ByteArray) (i : Nat) (h : i < l.length) : rdOf ByteArray.empty l (i : Int) = l[i] := by
  unfold rdOf
  rw [Int.toNat_natCast, List.getD_eq_getElem?_getD, List.getElem?_eq_getElem h]; rfl
theorem same_l0 (a b : List ByteArray) (hl : a.length = b.length) (hb : a.length ≤ 9223372036854775807) (x0 x2 x3 : Int) (x4 : ByteArray) (x5 : Bool) (x6 : ByteArray) (y0 y2 y3 : Int) (y4 : ByteArray) (y5 : Bool) (y6 : ByteArray) :
    ∀ (d i k : Nat), a.length - i = d → i ≤ a.length → d < k → (∀ j, j < i → a[j]? = b[j]?) →
    tattlerref07_Same.l0 k (a.length : Int) (i : Int) x0 a x2 x3 x4 x5 x6 y0 b y2 y3 y4 y5 y6 = some (decide (a = b)) := by
  intro d
  induction d with
  | zero =>
    intro i k hd hi hk he
    obtain ⟨k, rfl⟩ : ∃ m, k = m + 1 := ⟨k - 1, by omega⟩
    obtain rfl : i = a.length := by omega
    simp only [tattlerref07_Same.l0]
    have hab : a = b := by
      apply List.ext_getElem? 
      intro j
      by_cases hj : j < a.length
      · exact he j hj
      · rw [List.getElem?_eq_none (by omega), List.getElem?_eq_none (by omega)]
    rw [if_neg (by omega), decide_eq_true hab]
  | succ d ih =>
    intro i k hd hi hk he
    obtain ⟨k, rfl⟩ : ∃ m, k = m + 1 := ⟨k - 1, by omega⟩
    have h1 : i < a.length := by omega
    have h2 : i < b.length := by omega
    have e2 : wrap64 ((i : Int) + 1) = ((i + 1 : Nat) : Int) := by rw [w64 (by omega) (by omega)]; omega
    simp only [tattlerref07_Same.l0]
    rw [if_pos (by omega), if_pos (by omega), if_pos (by omega), if_pos (by omega), rd_at a i h1, rd_at b i h2, e2]
    clear e2
    by_cases h3 : a[i] = b[i]
    · rw [if_pos ((str_iff _ _).2 h3)]
      refine ih (i + 1) k (by omega) (by omega) (by omega) (fun j hj => ?_)
      by_cases e : j = i
      · subst e; rw [List.getElem?_eq_getElem h1, List.getElem?_eq_getElem h2, h3]
      · exact he j (by omega)
    · rw [if_neg (fun h => h3 ((str_iff _ _).1 h)), decide_eq_false (fun h => h3 (by simp only [h]))]
/-- Are two commands the same? -/
def sameP (x0 : Int) (a : List ByteArray) (x2 x3 : Int) (x4 : ByteArray) (x5 : Bool) (x6 : ByteArray) (y0 : Int) (b : List ByteArray) (y2 y3 : Int) (y4 : ByteArray) (y5 : Bool) (y6 : ByteArray) : Bool :=
  decide (x0 = y0 ∧ x2 = y2 ∧ x3 = y3 ∧ x4 = y4 ∧ x5 = y5 ∧ x6 = y6 ∧ a = b)
theorem same_is (x0 : Int) (a : List ByteArray) (x2 x3 : Int) (x4 : ByteArray) (x5 : Bool) (x6 : ByteArray) (y0 : Int) (b : List ByteArray) (y2 y3 : Int) (y4 : ByteArray) (y5 : Bool) (y6 : ByteArray) (hb : a.length ≤ 9223372036854775807) :
    tattlerref07_Same.f (a.length + 2) x0 a x2 x3 x4 x5 x6 y0 b y2 y3 y4 y5 y6 = some (sameP x0 a x2 x3 x4 x5 x6 y0 b y2 y3 y4 y5 y6) := by
  have hj : ∀ v, tattlerref07_Same.j0 (a.length + 2) v x0 a x2 x3 x4 x5 x6 y0 b y2 y3 y4 y5 y6 = if v = true then some false else tattlerref07_Same.l0 (a.length + 1) (a.length : Int) 0 x0 a x2 x3 x4 x5 x6 y0 b y2 y3 y4 y5 y6 := fun v => by simp only [tattlerref07_Same.j0]
  unfold tattlerref07_Same.f sameP
  rw [hj, hj]
  by_cases h0 : x0 = y0
  · rw [if_pos h0]
    by_cases h2 : x2 = y2
    · rw [if_pos h2]
      by_cases h3 : x3 = y3
      · rw [if_pos h3]
        by_cases h4 : x4 = y4
        · rw [if_pos ((str_iff _ _).2 h4)]
          by_cases h5 : x5 = y5
          · rw [if_neg (by simp [h5])]
            by_cases h6 : x6 = y6
            · rw [if_pos ((str_iff _ _).2 h6)]
              by_cases h7 : a.length = b.length
              · have e : ((a.length : Int) != (b.length : Int)) = false := by simp [h7]
                rw [e, if_neg (by simp)]
                have h := same_l0 a b h7 hb x0 x2 x3 x4 x5 x6 y0 y2 y3 y4 y5 y6 a.length 0 (a.length + 1) rfl (by omega) (by omega) (by intro j hj; omega)
                refine Eq.trans h ?_
                congr 1
                rw [decide_eq_decide]
                exact ⟨fun h => ⟨h0, h2, h3, h4, h5, h6, h⟩, fun h => h.2.2.2.2.2.2⟩
              · have e : ((a.length : Int) != (b.length : Int)) = true := by simp; omega
                rw [e, if_pos rfl, decide_eq_false (fun h => h7 (by rw [h.2.2.2.2.2.2]))]
            · rw [if_neg (fun h => h6 ((str_iff _ _).1 h)), if_pos rfl, decide_eq_false (fun h => h6 h.2.2.2.2.2.1)]
          · rw [if_pos (by simpa using h5), if_pos rfl, decide_eq_false (fun h => h5 h.2.2.2.2.1)]
        · rw [if_neg (fun h => h4 ((str_iff _ _).1 h)), if_pos rfl, decide_eq_false (fun h => h4 h.2.2.2.1)]
      · rw [if_neg h3, if_pos rfl, decide_eq_false (fun h => h3 h.2.2.1)]
    · rw [if_neg h2, if_pos rfl, decide_eq_false (fun h => h2 h.2.1)]
  · rw [if_neg h0, if_pos rfl, decide_eq_false (fun h => h0 h.1)]
end Go.Proofs.YthinmioognadpaaDoor.Cmd

/- Two rows of the same commands are the same (own text). -/
namespace Go.Proofs.YthinmioognadpaaDoor.Feed
open Go.RowKit Go.Proofs.YthinmioognadpaaDoor.Mem Go.Proofs.YthinmioognadpaaDoorW.PrintWords Go.Proofs.YthinmioognadpaaDoorW.PrintLast Go.Proofs.YthinmioognadpaaDoorW.PrintMore Go.Proofs.YthinmioognadpaaDoor.PCmd
set_option linter.unusedVariables false
set_option linter.unusedSimpArgs false
def toS (c : Cm) : S28 := ⟨c.kind, c.keys, c.fl, c.ex, c.body, c.quiet, c.reply⟩
theorem same_ge (x : S28) (hb : x.f1.length ≤ 9223372036854775807) : ∀ d, tattlerref07_Same.f (x.f1.length + 2 + d) x.f0 x.f1 x.f2 x.f3 x.f4 x.f5 x.f6 x.f0 x.f1 x.f2 x.f3 x.f4 x.f5 x.f6 = some true
  | 0 => by
    refine (Cmd.same_is x.f0 x.f1 x.f2 x.f3 x.f4 x.f5 x.f6 x.f0 x.f1 x.f2 x.f3 x.f4 x.f5 x.f6 hb).trans ?_
    unfold Cmd.sameP
    rw [decide_eq_true ⟨rfl, rfl, rfl, rfl, rfl, rfl, rfl⟩]
  | d + 1 => tattlerref07_Same.mono _ _ _ _ _ _ _ _ _ _ _ _ _ _ _ _ (same_ge x hb d)
theorem rd_at28 (l : List S28) (i : Nat) (h : i < l.length) : rd_T28 l (i : Int) = l[i] := by
  unfold rd_T28
  rw [Int.toNat_natCast, List.getD_eq_getElem?_getD, List.getElem?_eq_getElem h]; rfl
theorem same_loop (l : List S28) (K : Nat) (hl : l.length ≤ 1000000) (hK : ∀ x, x ∈ l → x.f1.length + 2 ≤ K ∧ x.f1.length ≤ 9223372036854775807) :
    ∀ d i k, l.length - i = d → i ≤ l.length → K + d < k → tattlerref07_SameAll.l0 k l l (l.length : Int) (i : Int) = some true := by
  intro d
  induction d with
  | zero =>
    intro i k hd hi hk
    obtain ⟨k, rfl⟩ : ∃ m, k = m + 1 := ⟨k - 1, by omega⟩
    simp only [tattlerref07_SameAll.l0]
    rw [if_neg (by omega)]
  | succ d ih =>
    intro i k hd hi hk
    obtain ⟨k, rfl⟩ : ∃ m, k = m + 1 := ⟨k - 1, by omega⟩
    have h1 : i < l.length := by omega
    have e2 : wrap64 ((i : Int) + 1) = ((i + 1 : Nat) : Int) := by rw [Cmd.w64 (by omega) (by omega)]; omega
    obtain ⟨k1, k2⟩ := hK l[i] (List.getElem_mem h1)
    have e3 := same_ge l[i] k2 (k - (l[i].f1.length + 2))
    rw [show l[i].f1.length + 2 + (k - (l[i].f1.length + 2)) = k by omega] at e3
    simp only [tattlerref07_SameAll.l0]
    rw [if_pos (by omega), if_pos (by omega), if_pos (by omega), if_pos (by omega), rd_at28 l i h1, e3, e2]
    rw [Option.bind_some]
    rw [if_pos rfl]
    exact ih (i + 1) k (by omega) (by omega) (by omega)
theorem keys_max (l : List S28) : ∃ K, ∀ x, x ∈ l → x.f1.length + 2 ≤ K := by
  induction l with
  | nil => exact ⟨0, fun x h => by cases h⟩
  | cons a l ih =>
    obtain ⟨K, hK⟩ := ih
    refine ⟨K + a.f1.length + 2, fun x h => ?_⟩
    rcases List.mem_cons.1 h with rfl | h
    · omega
    · have := hK x h; omega
/-- What a row of commands reads as. -/
theorem out_reads {w : World} {v : Value} {l : List Cm} (h : Out w v l) : ∃ A c, v = .slice A l.length c ∧ l.length ≤ c ∧ Kd.C k28 w A (l.map toS).length (l.map toS) ∧ ∀ x, x ∈ l.map toS → x.f1.length ≤ 9223372036854775807 := by
  obtain ⟨A, c, rfl, hl, hr⟩ := Kd.R_reads h
  refine ⟨A, c, rfl, hl, ?_, ?_⟩
  · obtain ⟨h1, h2, h3⟩ := hr
    refine ⟨rfl, by rw [List.length_map]; exact h2, fun hn => ?_⟩
    rw [List.length_map] at hn
    obtain ⟨ad, e, hc⟩ := h3 hn
    refine ⟨ad, e, fun j p hj => ?_⟩
    rw [List.getElem?_map] at hj
    obtain ⟨x, hx, rfl⟩ := Option.map_eq_some_iff.1 hj
    exact hc j x hx
  · intro x hx
    obtain ⟨y, hy, rfl⟩ := List.mem_map.1 hx
    obtain ⟨j, hj, rfl⟩ := List.mem_iff_getElem.1 hy
    obtain ⟨h1, h2, h3⟩ := hr
    obtain ⟨ad, e, hc⟩ := h3 (by omega)
    obtain ⟨cs, _, hk, _⟩ := hc j _ (List.getElem?_eq_getElem hj)
    obtain ⟨_, _, rfl, rfl, _, _, rfl, ⟨A', cap, rfl, _, hq⟩, _⟩ := hk
    exact hq.2.1
theorem same_calls {w : World} {v0 v1 : Value} {l : List Cm} (h0 : Out w v0 l) (h1 : Out w v1 l) (hl : l.length ≤ 1000000) : Calls Tryd.prog 11 #[v0, v1] w fun e w' => e = .returned (.bool true) ∧ Below w.heap.size w w' := by
  obtain ⟨A0, c0, rfl, m0, r0, hb⟩ := out_reads h0
  obtain ⟨A1, c1, rfl, m1, r1, _⟩ := out_reads h1
  obtain ⟨K, hK⟩ := keys_max (l.map toS)
  have hf : tattlerref07_SameAll.f (K + l.length + 1) (l.map toS) (l.map toS) = some true := by
    unfold tattlerref07_SameAll.f
    rw [if_pos rfl]
    exact same_loop (l.map toS) K (by rw [List.length_map]; exact hl) (fun x hx => ⟨hK x hx, hb x hx⟩) l.length 0 _ (by rw [List.length_map]; rfl) (Nat.zero_le _) (by omega)
  have := tattlerref07_SameAll.calls (K + l.length + 1) A0 c0 (l.map toS) A1 c1 (l.map toS) true w r0 (by rw [List.length_map]; exact m0) r1 (by rw [List.length_map]; exact m1) hf
  rw [List.length_map] at this
  exact this
/-- A row of commands, as it stands behind another one. -/
theorem out_rows {w : World} {v : Value} {l : List Cm} (h : Out w v l) : ∃ A c, v = .slice A l.length c ∧ ReadsRow (kC.M w 0 (fun j => ∃ cells, w.heap[j]? = some (Obj.cells cells 9 (0, 0)))) kC.sz w A l.length l := by
  obtain ⟨h0, inner, ho, hr⟩ := h
  refine own_reads_row ho (hr.imp_ (fun x cs hp => kC.M_mono (fun j hj => ?_) (kC.M_bound hp))) rfl
  obtain ⟨_, _, _, q, hq, cells, hc⟩ := hj
  have e : q ∈ [(9 : Nat)] := hq
  have e' : q = 9 := by simpa using e
  subst e'
  exact ⟨cells, hc⟩
theorem out_len {w : World} {v : Value} {l : List Cm} (h : Out w v l) : ∃ A c, v = .slice A l.length c := Kd.R_slice h
end Go.Proofs.YthinmioognadpaaDoor.Feed

/- cmd.set at any words (own text). -/
import Derived.Test.YtpfggidfcbgaiaaDoorCmdKeys
namespace Go.Proofs.YtpfggidfcbgaiaaDoor.Cmd
open Go.RowKit Go.Proofs.YtpfggidfcbgaiaaDoorW.PrintWords Go.Proofs.YtpfggidfcbgaiaaDoorW.PrintLast Go.Proofs.YtpfggidfcbgaiaaDoorW.PrintMore Go.Proofs.YtpfggidfcbgaiaaDoor.PCmd Go.Proofs.YtpfggidfcbgaiaaDoor.Split
set_option linter.unusedVariables false
set_option linter.unusedSimpArgs false
/-- A line's word. -/
def wd (l : List ByteArray) (i : Nat) : ByteArray := l.getD i ⟨#[]⟩
/-- How many bytes a set's data has; -1: it can't be told. -/
def dataP (l : List ByteArray) : Int := if l.length = 5 ∨ l.length = 6 then (if amtB (wd l 4) then amtV (wd l 4) else -1) else -1
/-- What a line's words that begin with set say. -/
def setP (l : List ByteArray) : Ans :=
  if dataP l < 0 then badA fmtB (-1)
  else if l.length = 6 ∧ wd l 5 ≠ noreplyB then badA fmtB (dataP l)
  else if amtB (wd l 2) = true ∧ momB (wd l 3) = true ∧ keyP (wd l 1) = true then
    (if 1024 < dataP l then badA bigB (dataP l) else (2, [wd l 1], amtV (wd l 2), momV (wd l 3), ⟨#[]⟩, decide (l.length = 6), ⟨#[]⟩, dataP l))
  else badA fmtB (dataP l)
theorem amt_facts {s : ByteArray} (h : amtB s = true) : 0 ≤ amtV s ∧ amtV s < 4294967296 := by
  unfold amtB at h
  obtain ⟨n, hn⟩ := Option.isSome_iff_exists.1 h
  have := amtV_of hn
  omega
theorem nr_iff (s : ByteArray) : (s.toList == [110, 111, 114, 101, 112, 108, 121]) = decide (s = noreplyB) := by
  rw [toList_eq, Bool.eq_iff_iff, beq_iff_eq, decide_eq_true_eq]
  constructor
  · intro h; exact ext_list h
  · rintro rfl; rfl
theorem tells_bad {w w' : World} {base : Nat} {e : Ending} {rep : ByteArray} {d : Int} (h : e = .returned (.tuple #[.agg #[.int .i64 8, .slice none 0 0, .int .u32 0, .int .i64 0, .string ⟨#[]⟩, .bool false, .string rep], .int .i64 d]) ∧ Below w.heap.size w w') : TellsC (badA rep d) base w e w' :=
  ⟨_, h.1, Kd.Q_nil _ _ _ _ _, h.2⟩
theorem wd_cell {w : World} {g : Nat} {l : List ByteArray} (hx : ∀ i x, l[i]? = some x → w.cell? ⟨g, i, none⟩ = some (.string x)) (i : Nat) (h : i < l.length) : w.cell? ⟨g, i, none⟩ = some (.string (wd l i)) := by
  refine hx i _ ?_
  unfold wd
  rw [List.getD_eq_getElem?_getD, List.getElem?_eq_getElem h]; rfl
theorem wd_mem {l : List ByteArray} (i : Nat) (h : i < l.length) : wd l i ∈ l := by
  unfold wd
  rw [List.getD_eq_getElem?_getD, List.getElem?_eq_getElem h]
  exact List.getElem_mem h
theorem set_any (l : List ByteArray) (g cap base : Nat) (w : World) (hR : Kd.R Kd.string 9 w base (fun _ => True) (.slice (some ⟨g, 0, none⟩) l.length cap) l) (hg : g < w.heap.size) (hcap : l.length ≤ cap)
    (hx : ∀ i x, l[i]? = some x → w.cell? ⟨g, i, none⟩ = some (.string x)) (hll : l.length ≤ 1000001) (hs : ∀ x, x ∈ l → x.size ≤ 1000000) :
    Calls Tryd.prog 16 #[.slice (some ⟨g, 0, none⟩) l.length cap] w (TellsC (setP l) base w) := by
  have hc := wd_cell hx
  have hz : ∀ i, i < l.length → (wd l i).size ≤ 1000000 := fun i h => hs _ (wd_mem i h)
  by_cases h56 : l.length = 5 ∨ l.length = 6
  · cases b4 : amtB (wd l 4) with
    | false =>
      have e : setP l = badA fmtB (-1) := by
        unfold setP dataP
        rw [if_pos h56, b4]; rfl
      rw [e]
      rcases h56 with h | h
      · rw [h] at hc hcap ⊢
        exact (set_amt_5 g cap ⟨#[]⟩ ⟨#[]⟩ ⟨#[]⟩ (wd l 4) ⟨#[]⟩ w hg hcap (hc 4 (by omega)) b4).mono fun _ _ k => tells_bad k
      · rw [h] at hc hcap ⊢
        have hn := nr_iff (wd l 5)
        by_cases h5 : wd l 5 = noreplyB
        · rw [decide_eq_true h5] at hn
          exact (set_amt_yes g cap ⟨#[]⟩ ⟨#[]⟩ ⟨#[]⟩ (wd l 4) (wd l 5) w hg hcap (hc 4 (by omega)) b4 (hc 5 (by omega)) hn).mono fun _ _ k => tells_bad k
        · rw [decide_eq_false h5] at hn
          exact (set_amt_no g cap ⟨#[]⟩ ⟨#[]⟩ ⟨#[]⟩ (wd l 4) (wd l 5) w hg hcap (hc 4 (by omega)) b4 (hc 5 (by omega)) hn).mono fun _ _ k => tells_bad k
    | true =>
      have hd := amt_facts b4
      have eD : dataP l = amtV (wd l 4) := by
        unfold dataP
        rw [if_pos h56, if_pos b4]
      have d0 : decide (amtV (wd l 4) < 0) = false := decide_eq_false (by omega)
      by_cases h6 : l.length = 6 ∧ wd l 5 ≠ noreplyB
      · have e : setP l = badA fmtB (amtV (wd l 4)) := by
          unfold setP
          rw [eD, if_neg (by omega), if_pos h6]
        rw [e]
        have hn := nr_iff (wd l 5)
        rw [decide_eq_false h6.2] at hn
        have h := h6.1
        rw [h] at hc hcap ⊢
        exact (set_six g cap ⟨#[]⟩ ⟨#[]⟩ ⟨#[]⟩ (wd l 4) (wd l 5) w hg hcap (hc 4 (by omega)) b4 (hc 5 (by omega)) hn d0).mono fun _ _ k => tells_bad k
      · have e : setP l = if amtB (wd l 2) = true ∧ momB (wd l 3) = true ∧ keyP (wd l 1) = true then (if 1024 < amtV (wd l 4) then badA bigB (amtV (wd l 4)) else (2, [wd l 1], amtV (wd l 2), momV (wd l 3), ⟨#[]⟩, decide (l.length = 6), ⟨#[]⟩, amtV (wd l 4))) else badA fmtB (amtV (wd l 4)) := by
          unfold setP
          rw [eD, if_neg (by omega), if_neg h6]
        rw [e]
        have hzz := hz
        have hkeys : ∀ (q : Bool) (w' : World) (en : Ending), decide (l.length = 6) = q → en = .returned (.tuple #[.agg #[.int .i64 2, .slice (some ⟨g, 1, none⟩) 1 (cap - 1), .int .u32 (amtV (wd l 2)), .int .i64 (momV (wd l 3)), .string ⟨#[]⟩, .bool q, .string ⟨#[]⟩], .int .i64 (amtV (wd l 4))]) ∧ Below w.heap.size w w' →
            TellsC (2, [wd l 1], amtV (wd l 2), momV (wd l 3), ⟨#[]⟩, decide (l.length = 6), ⟨#[]⟩, amtV (wd l 4)) base w en w' := by
          rintro q w' en hq ⟨rfl, hb⟩
          rw [hq]
          refine ⟨_, rfl, ?_, hb⟩
          have hQ := Kd.Q_below (Q_tail (m := 2) hR (by omega) (by omega) (by omega)) hb
          have e1 : (l.take 2).drop 1 = [wd l 1] := by
            have h3 : l.length ≥ 2 := by omega
            match l, h3 with
            | a :: b :: r, _ => rfl
          rw [e1] at hQ
          exact hQ
        rcases h56 with h | h
        · have hq : decide (l.length = 6) = false := decide_eq_false (by omega)
          replace hkeys := fun w' en => hkeys false w' en hq
          rw [h] at hc hcap hz ⊢
          cases b2 : amtB (wd l 2) with
          | false => rw [if_neg (by simp)]; exact (set_a_5 g cap ⟨#[]⟩ (wd l 2) (wd l 3) (wd l 4) ⟨#[]⟩ w hg hcap (hc 4 (by omega)) b4 d0 (hc 2 (by omega)) (hc 3 (by omega)) (hz 3 (by omega)) b2).mono fun _ _ k => tells_bad k
          | true =>
            cases b3 : momB (wd l 3) with
            | false => rw [if_neg (by simp)]; exact (set_b_5 g cap ⟨#[]⟩ (wd l 2) (wd l 3) (wd l 4) ⟨#[]⟩ w hg hcap (hc 4 (by omega)) b4 d0 (hc 2 (by omega)) (hc 3 (by omega)) (hz 3 (by omega)) b2 b3).mono fun _ _ k => tells_bad k
            | true =>
              cases b1 : keyP (wd l 1) with
              | false => rw [if_neg (by simp)]; exact (set_k_5 g cap (wd l 1) (wd l 2) (wd l 3) (wd l 4) ⟨#[]⟩ w hg hcap (hc 4 (by omega)) b4 d0 (hc 2 (by omega)) (hc 3 (by omega)) (hz 3 (by omega)) b2 b3 (hc 1 (by omega)) (hz 1 (by omega)) b1).mono fun _ _ k => tells_bad k
              | true =>
                rw [if_pos ⟨rfl, rfl, rfl⟩]
                by_cases hbig : 1024 < amtV (wd l 4)
                · rw [if_pos hbig]; exact (set_big_5 g cap (wd l 1) (wd l 2) (wd l 3) (wd l 4) ⟨#[]⟩ w hg hcap (hc 4 (by omega)) b4 d0 (hc 2 (by omega)) (hc 3 (by omega)) (hz 3 (by omega)) b2 b3 (hc 1 (by omega)) (hz 1 (by omega)) b1 (decide_eq_true hbig)).mono fun _ _ k => tells_bad k
                · rw [if_neg hbig]
                  rw [h] at hkeys
                  exact (set_ok_5 g cap (wd l 1) (wd l 2) (wd l 3) (wd l 4) ⟨#[]⟩ w hg hcap (hc 4 (by omega)) b4 d0 (hc 2 (by omega)) (hc 3 (by omega)) (hz 3 (by omega)) b2 b3 (hc 1 (by omega)) (hz 1 (by omega)) b1 (decide_eq_false hbig) (amt_facts b2)).mono fun _ _ k => hkeys _ _ k
        · have h5 : wd l 5 = noreplyB := by
            by_cases h5 : wd l 5 = noreplyB
            · exact h5
            · exact absurd ⟨h, h5⟩ h6
          have hn := nr_iff (wd l 5)
          rw [decide_eq_true h5] at hn
          have hq : decide (l.length = 6) = true := decide_eq_true (by omega)
          replace hkeys := fun w' en => hkeys true w' en hq
          rw [h] at hc hcap hz ⊢
          cases b2 : amtB (wd l 2) with
          | false => rw [if_neg (by simp)]; exact (set_a_yes g cap ⟨#[]⟩ (wd l 2) (wd l 3) (wd l 4) (wd l 5) w hg hcap (hc 4 (by omega)) b4 (hc 5 (by omega)) hn d0 (hc 2 (by omega)) (hc 3 (by omega)) (hz 3 (by omega)) b2).mono fun _ _ k => tells_bad k
          | true =>
            cases b3 : momB (wd l 3) with
            | false => rw [if_neg (by simp)]; exact (set_b_yes g cap ⟨#[]⟩ (wd l 2) (wd l 3) (wd l 4) (wd l 5) w hg hcap (hc 4 (by omega)) b4 (hc 5 (by omega)) hn d0 (hc 2 (by omega)) (hc 3 (by omega)) (hz 3 (by omega)) b2 b3).mono fun _ _ k => tells_bad k
            | true =>
              cases b1 : keyP (wd l 1) with
              | false => rw [if_neg (by simp)]; exact (set_k_yes g cap (wd l 1) (wd l 2) (wd l 3) (wd l 4) (wd l 5) w hg hcap (hc 4 (by omega)) b4 (hc 5 (by omega)) hn d0 (hc 2 (by omega)) (hc 3 (by omega)) (hz 3 (by omega)) b2 b3 (hc 1 (by omega)) (hz 1 (by omega)) b1).mono fun _ _ k => tells_bad k
              | true =>
                rw [if_pos ⟨rfl, rfl, rfl⟩]
                by_cases hbig : 1024 < amtV (wd l 4)
                · rw [if_pos hbig]; exact (set_big_yes g cap (wd l 1) (wd l 2) (wd l 3) (wd l 4) (wd l 5) w hg hcap (hc 4 (by omega)) b4 (hc 5 (by omega)) hn d0 (hc 2 (by omega)) (hc 3 (by omega)) (hz 3 (by omega)) b2 b3 (hc 1 (by omega)) (hz 1 (by omega)) b1 (decide_eq_true hbig)).mono fun _ _ k => tells_bad k
                · rw [if_neg hbig]
                  rw [h] at hkeys
                  exact (set_ok_yes g cap (wd l 1) (wd l 2) (wd l 3) (wd l 4) (wd l 5) w hg hcap (hc 4 (by omega)) b4 (hc 5 (by omega)) hn d0 (hc 2 (by omega)) (hc 3 (by omega)) (hz 3 (by omega)) b2 b3 (hc 1 (by omega)) (hz 1 (by omega)) b1 (decide_eq_false hbig) (amt_facts b2)).mono fun _ _ k => hkeys _ _ k
  · have e : setP l = badA fmtB (-1) := by
      unfold setP dataP
      rw [if_neg h56]; rfl
    rw [e]
    exact (set_other g cap l.length ⟨#[]⟩ ⟨#[]⟩ ⟨#[]⟩ ⟨#[]⟩ ⟨#[]⟩ w hg (by omega) (by omega) (by omega)).mono fun _ _ k => tells_bad k
theorem set_n (l : List ByteArray) (n : Nat) (hn : l.length = n) (g cap base : Nat) (w : World) (hR : Kd.R Kd.string 9 w base (fun _ => True) (.slice (some ⟨g, 0, none⟩) n cap) l) (hg : g < w.heap.size) (hcap : n ≤ cap)
    (hx : ∀ i x, l[i]? = some x → w.cell? ⟨g, i, none⟩ = some (.string x)) (hll : n ≤ 1000001) (hs : ∀ x, x ∈ l → x.size ≤ 1000000) :
    Calls Tryd.prog 16 #[.slice (some ⟨g, 0, none⟩) n cap] w (TellsC (setP l) base w) := by
  subst hn
  exact set_any l g cap base w hR hg hcap hx hll hs
theorem keys_n {w : World} {base g cap : Nat} {l : List ByteArray} {m n : Nat} (hn : l.length = n) (hR : Kd.R Kd.string 9 w base (fun _ => True) (.slice (some ⟨g, 0, none⟩) n cap) l) (hm : 1 ≤ m) (hl : m ≤ n) (hll : n ≤ 1000001) (hc : 2 ≤ cap) (hs : ∀ x, x ∈ l → x.size ≤ 1000000)
    (W : World) (hb : Below w.heap.size w W) : Calls Tryd.prog 19 #[.slice (some ⟨g, 1, none⟩) (m - 1) (cap - 1)] W fun e w' => e = .returned (.bool (((l.take m).drop 1).all keyP)) ∧ Drawn0 W w' := by
  subst hn
  exact keys_tail hR hm hl hll hc hs W hb
theorem Q_n {w : World} {base g cap : Nat} {l : List ByteArray} {m n : Nat} (hn : l.length = n) (hR : Kd.R Kd.string 9 w base (fun _ => True) (.slice (some ⟨g, 0, none⟩) n cap) l) (hm : 1 ≤ m) (hl : m ≤ n) (hc : 2 ≤ cap) :
    Kd.Q Kd.string 9 w base (fun _ => True) (.slice (some ⟨g, 1, none⟩) (m - 1) (cap - 1)) ((l.take m).drop 1) := by
  subst hn
  exact Q_tail hR hm hl hc
/-- The blocks from lo on that are w's are the same in W. -/
def Same (w W : World) (lo : Nat) : Prop := w.heap.size ≤ W.heap.size ∧ ∀ k, lo ≤ k → k < w.heap.size → W.heap[k]? = w.heap[k]?
theorem same_refl (w : World) (lo : Nat) : Same w w lo := ⟨Nat.le_refl _, fun _ _ _ => rfl⟩
theorem same_drewN {w W : World} {lo : Nat} (h : Same w W lo) (n : Nat) : Same w (W.drewN n) lo := h
theorem same_drew {w W : World} {lo : Nat} (h : Same w W lo) : Same w W.drew lo := h
theorem same_alloc {w W : World} {lo : Nat} (h : Same w W lo) (o : Obj) : Same w (W.alloc o) lo :=
  ⟨by have := h.1; simp; omega, fun k h1 h2 => (Below.heap_alloc W o k (Nat.lt_of_lt_of_le h2 h.1)).trans (h.2 k h1 h2)⟩
theorem same_set {w W : World} {lo g j : Nat} (h : Same w W lo) (u : Value) (hp : g < lo ∨ w.heap.size ≤ g) : Same w (W.setCell ⟨g, j, none⟩ u) lo :=
  ⟨by simpa [World.setCell] using h.1, fun k h1 h2 => (Below.heap_setCell W ⟨g, j, none⟩ u k (by show k ≠ g; omega)).trans (h.2 k h1 h2)⟩
theorem same_below {w W W2 : World} {lo : Nat} (h : Same w W lo) (hb : Below W.heap.size W W2) : Same w W2 lo :=
  ⟨Nat.le_trans h.1 hb.size, fun k h1 h2 => (hb.block k (Nat.lt_of_lt_of_le h2 h.1)).trans (h.2 k h1 h2)⟩
theorem Q_same {w W : World} {lo base : Nat} {v : Value} {xs : List ByteArray} (hQ : Kd.Q Kd.string 9 w lo (fun _ => True) v xs) (h : Same w W lo) (hb : base ≤ lo) : Kd.Q Kd.string 9 W base (fun _ => True) v xs :=
  Kd.Q_lower (Kd.Q_mono (Kd.Q_move (Kd.Q_bound hQ) (fun k hk => h.2 k hk.2.1 hk.2.2.1)) (fun _ _ => trivial)) hb
end Go.Proofs.YtpfggidfcbgaiaaDoor.Cmd

/- What a stream tells, in parts: lines, data, tails; feeds that read alike (own text). -/
import Derived.Test.YthinmioognadpaaDoorFeedD
namespace Go.Proofs.YthinmioognadpaaDoor.Feed
open Go.RowKit Go.Proofs.YthinmioognadpaaDoor.Mem Go.Proofs.YthinmioognadpaaDoorW.PrintWords Go.Proofs.YthinmioognadpaaDoorW.PrintLast Go.Proofs.YthinmioognadpaaDoorW.PrintMore
set_option linter.unusedVariables false
set_option linter.unusedSimpArgs false
theorem takeA_cons {s : St} (h : s.over = false) (o : List Cm) (x : Int) (r : List Int) : takeA s o (x :: r) = takeA (stepP s x).1 (if (stepP s x).2.2 = true then o ++ [(stepP s x).2.1] else o) r := takeA_step h o x r rfl
theorem takeA_app : ∀ (l r : List Int) (s : St) (o : List Cm), takeA s o (l ++ r) = takeA (takeA s o l).1 (takeA s o l).2 r
  | [], r, s, o => rfl
  | x :: l, r, s, o => by
    cases h : s.over with
    | true => rw [takeA_over h, takeA_over h, takeA_over h]
    | false => rw [List.cons_append, takeA_cons h, takeA_cons h, takeA_app l r]
theorem takeA_out : ∀ (l : List Int) (s : St) (o : List Cm), takeA s o l = ((takeA s [] l).1, o ++ (takeA s [] l).2)
  | [], s, o => by show (s, o) = (s, o ++ []); rw [List.append_nil]
  | x :: l, s, o => by
    cases h : s.over with
    | true => rw [takeA_over h, takeA_over h, List.append_nil]
    | false =>
      rw [takeA_cons h, takeA_cons h, takeA_out l _ (if (stepP s x).2.2 = true then o ++ [(stepP s x).2.1] else o), takeA_out l _ (if (stepP s x).2.2 = true then [] ++ [(stepP s x).2.1] else [])]
      split
      · rw [List.nil_append, List.append_assoc]
      · rw [List.nil_append]
theorem step_line (s : St) (x : Int) (hm : s.mode = 0) (hx : x ≠ 10) (hl : s.held.length < 2048) : stepP s x = ({ s with held := s.held ++ [x] }, cm0, false) := by
  unfold stepP
  rw [if_pos hm, if_neg hx, if_pos hl]
theorem step_long (s : St) (x : Int) (hm : s.mode = 0) (hx : x ≠ 10) (hl : ¬ s.held.length < 2048) : stepP s x = ({ s with held := [], mode := 1 }, badC longB, true) := by
  unfold stepP
  rw [if_pos hm, if_neg hx, if_neg hl]
theorem step_pass (s : St) (x : Int) (hm : s.mode = 1) : stepP s x = (passS s x, cm0, false) := by
  unfold stepP
  rw [if_neg (by omega), if_pos hm]
theorem step_data (s : St) (x : Int) (hm : s.mode = 2) : stepP s x = (dataS s x, cm0, false) := by
  unfold stepP
  rw [if_neg (by omega), if_neg (by omega), if_pos hm]
theorem step_end (s : St) (x : Int) (hm : s.mode = 3) : stepP s x = (if x = 10 then endS s else tailS s x, if x = 10 then endC s else cm0, if x = 10 then s.c.kind != 8 else false) := by
  unfold stepP
  rw [if_neg (by omega), if_neg (by omega), if_neg (by omega)]
theorem take_line : ∀ (l : List Int) (s : St) (o : List Cm), s.mode = 0 → s.over = false → (∀ x, x ∈ l → x ≠ 10) → s.held.length + l.length ≤ 2048 → takeA s o l = ({ s with held := s.held ++ l }, o)
  | [], s, o, _, _, _, _ => by show (s, o) = _; rw [List.append_nil]
  | x :: l, s, o, hm, ho, hx, hl => by
    rw [List.length_cons] at hl
    rw [takeA_cons ho, step_line s x hm (hx x List.mem_cons_self) (by omega)]
    show takeA { s with held := s.held ++ [x] } o l = _
    rw [take_line l { s with held := s.held ++ [x] } o hm ho (fun y hy => hx y (List.mem_cons_of_mem _ hy)) (by show (s.held ++ [x]).length + l.length ≤ 2048; rw [List.length_append]; show s.held.length + 1 + l.length ≤ 2048; omega)]
    show ({ s with held := (s.held ++ [x]) ++ l }, o) = _
    rw [List.append_assoc]
    rfl
theorem take_pass : ∀ (l : List Int) (s : St) (o : List Cm), s.mode = 1 → s.over = false → (∀ x, x ∈ l → x ≠ 10) → takeA s o l = (s, o)
  | [], s, o, _, _, _ => rfl
  | x :: l, s, o, hm, ho, hx => by
    rw [takeA_cons ho, step_pass s x hm]
    show takeA (passS s x) o l = _
    unfold passS
    rw [if_neg (hx x List.mem_cons_self)]
    exact take_pass l s o hm ho (fun y hy => hx y (List.mem_cons_of_mem _ hy))
theorem take_data : ∀ (l : List Int) (s : St) (o : List Cm), s.mode = 2 → s.over = false → s.c.kind ≠ 8 → 0 < l.length → s.left = (l.length : Int) → takeA s o l = ({ s with held := s.held ++ l, left := 0, mode := 3 }, o)
  | [], s, o, _, _, _, h, _ => absurd h (by decide)
  | x :: l, s, o, hm, ho, hk, _, hl => by
    have hl1 : s.left - 1 = (l.length : Int) := by rw [hl, List.length_cons]; omega
    rw [takeA_cons ho, step_data s x hm]
    show takeA (dataS s x) o l = _
    unfold dataS
    rw [if_neg hk, hl1]
    match l, hl1 with
    | [], _ => rfl
    | y :: r, _ =>
      rw [if_neg (by rw [List.length_cons]; omega)]
      rw [take_data (y :: r) { s with held := s.held ++ [x], left := ((y :: r).length : Int) } o hm ho hk (by rw [List.length_cons]; omega) rfl]
      show ({ s with held := (s.held ++ [x]) ++ (y :: r), left := 0, mode := 3 }, o) = _
      rw [List.append_assoc]
      rfl
theorem take_tail (s : St) (o : List Cm) (hm : s.mode = 3) (ho : s.over = false) (ht : s.tail = 0) (hk : s.c.kind ≠ 8) : takeA s o [13, 10] = ({ s with cr := true, tail := 1, held := [], c := cm0, mode := 0 }, o ++ [{ s.c with body := strOfNums s.held }]) := by
  obtain ⟨m, hd, c, l, t, cr, ov⟩ := s
  have hm : m = 3 := hm
  have ho : ov = false := ho
  have ht : t = 0 := ht
  have hk : c.kind ≠ 8 := hk
  subst hm ho ht
  have hb : (c.kind != 8) = true := bne_iff_ne.2 hk
  rw [takeA_cons rfl, step_end _ _ rfl]
  show takeA ⟨3, hd, c, l, 1, true, false⟩ o [10] = _
  rw [takeA_cons rfl, step_end _ _ rfl]
  show takeA ⟨0, [], cm0, l, 1, true, false⟩ (if (c.kind != 8) = true then o ++ [{ c with body := strOfNums hd }] else o) [] = _
  rw [if_pos hb]
  rfl
/-- Two feeds read alike: what they read next, what they hold, whether they are over; within data, all. -/
def Like (s s' : St) : Prop := s.mode = s'.mode ∧ s.held = s'.held ∧ s.over = s'.over ∧ (2 ≤ s.mode → s = s')
theorem like_refl (s : St) : Like s s := ⟨rfl, rfl, rfl, fun _ => rfl⟩
theorem like_step {s s' : St} (h : Like s s') (x : Int) : Like (stepP s x).1 (stepP s' x).1 ∧ (stepP s x).2 = (stepP s' x).2 := by
  by_cases h2 : 2 ≤ s.mode
  · rw [h.2.2.2 h2]
    exact ⟨like_refl _, rfl⟩
  · obtain ⟨m, hd, c, l, t, cr, ov⟩ := s
    obtain ⟨m', hd', c', l', t', cr', ov'⟩ := s'
    obtain ⟨e1, e2, e3, _⟩ := h
    have e1 : m = m' := e1
    have e2 : hd = hd' := e2
    have e3 : ov = ov' := e3
    subst e1 e2 e3
    have h2 : ¬ 2 ≤ m := h2
    have hm : m = 0 ∨ m = 1 := by omega
    rcases hm with rfl | rfl
    · by_cases hx : x = 10
      · by_cases hd0 : ansD (lineP hd) < 0
        · have key : ∀ (c : Cm) (l t : Int) (cr : Bool), stepP ⟨0, hd, c, l, t, cr, ov⟩ x = (⟨0, [], c, l, t, cr, (ansC (lineP hd)).kind == 7⟩, ansC (lineP hd), true) := fun c l t cr => by
            unfold stepP
            rw [if_pos rfl, if_pos hx]
            show (if ansD (lineP hd) < 0 then _ else _) = _
            rw [if_pos hd0]
          rw [key, key]
          exact ⟨⟨rfl, rfl, rfl, fun h => absurd h (by show ¬ 2 ≤ 0; decide)⟩, rfl⟩
        · have key : ∀ (c : Cm) (l t : Int) (cr : Bool), stepP ⟨0, hd, c, l, t, cr, ov⟩ x = (⟨if ansD (lineP hd) = 0 then 3 else 2, [], ansC (lineP hd), ansD (lineP hd), 0, false, ov⟩, ansC (lineP hd), (ansC (lineP hd)).kind == 8) := fun c l t cr => by
            unfold stepP
            rw [if_pos rfl, if_pos hx]
            show (if ansD (lineP hd) < 0 then _ else _) = _
            rw [if_neg hd0]
          rw [key, key]
          exact ⟨like_refl _, rfl⟩
      · by_cases hl : hd.length < 2048
        · rw [step_line _ x rfl hx hl, step_line _ x rfl hx hl]
          exact ⟨⟨rfl, rfl, rfl, fun h => absurd h (by show ¬ 2 ≤ 0; decide)⟩, rfl⟩
        · rw [step_long _ x rfl hx hl, step_long _ x rfl hx hl]
          exact ⟨⟨rfl, rfl, rfl, fun h => absurd h (by show ¬ 2 ≤ 1; decide)⟩, rfl⟩
    · rw [step_pass _ x rfl, step_pass _ x rfl]
      refine ⟨?_, rfl⟩
      show Like (passS _ x) (passS _ x)
      unfold passS
      split
      · exact ⟨rfl, rfl, rfl, fun h => absurd h (by show ¬ 2 ≤ 0; decide)⟩
      · exact ⟨rfl, rfl, rfl, fun h => absurd h (by show ¬ 2 ≤ 1; decide)⟩
theorem like_take : ∀ (l : List Int) (s s' : St) (o : List Cm), Like s s' → Like (takeA s o l).1 (takeA s' o l).1 ∧ (takeA s o l).2 = (takeA s' o l).2
  | [], s, s', o, h => ⟨h, rfl⟩
  | x :: l, s, s', o, h => by
    cases ho : s.over with
    | true => rw [takeA_over ho, takeA_over (h.2.2.1.symm.trans ho)]; exact ⟨h, rfl⟩
    | false =>
      obtain ⟨h1, h2⟩ := like_step h x
      rw [takeA_cons ho, takeA_cons (h.2.2.1.symm.trans ho), h2]
      exact like_take l _ _ _ h1
theorem bytesL_app (a b : ByteArray) : bytesL (a ++ b) = bytesL a ++ bytesL b := by
  unfold bytesL
  rw [ByteArray.data_append, Array.toList_append, List.map_append]
theorem str_map (l : List UInt8) : strOfNums (l.map fun b => (b.toNat : Int)) = ⟨l.toArray⟩ := by
  unfold strOfNums
  congr 2
  rw [List.map_map]
  conv => rhs; rw [← List.map_id l]
  apply List.map_congr_left
  intro b _
  simp
theorem str_bytes (b : ByteArray) : strOfNums (bytesL b) = b := str_map b.data.toList
/-! ### Other feeds -/
/-- Another feed turns. -/
theorem feed_other {w w' : World} {b b' : Nat} {s s' : St} {hv hv' : Value} (h' : FeedAt w b' s' hv') (h : FeedAt w b s hv) (k : Turn b hv w w') (hne : b' ≠ b) (ho : ∀ j, hv.ownBlock = some j → hv'.ownBlock ≠ some j) : FeedAt w' b' s' hv' := by
  obtain ⟨kv', ha', hr', hk'⟩ := h'
  obtain ⟨kv, ha, hr, hk⟩ := id h
  refine ⟨kv', (k.block b' ha'.lt ?_).trans ha', Kd.R_mono (Kd.R_step (Kd.R_tight rfl hr') (fun j hj hlt => k.block j hlt ?_)) (fun _ _ => trivial), keys_turn h hk' k⟩
  · rintro (e | e)
    · exact hne e
    · exact own_typ hr ha' (by decide) e
  · rintro (e | e)
    · obtain ⟨cells, hc⟩ := Kd.R_typed hr' j hj.symm
      exact typ_ne ha hc (by decide) e
    · exact ho j e.symm hj.symm
theorem nil_own : ∀ j, (Value.slice none 0 0).ownBlock ≠ some j := fun j h => by cases h
theorem nil_apart {hv : Value} : ∀ j, hv.ownBlock = some j → (Value.slice none 0 0).ownBlock ≠ some j := fun j _ h => by cases h
theorem apart_nil {hv : Value} : ∀ j, (Value.slice none 0 0).ownBlock = some j → hv.ownBlock ≠ some j := fun j h => by cases h
theorem takeA_len : ∀ (l : List Int) (s : St) (o : List Cm), (takeA s o l).2.length ≤ o.length + l.length
  | [], s, o => by unfold takeA; simp
  | x :: r, s, o => by
    unfold takeA
    split
    · simp
    · refine Nat.le_trans (takeA_len r _ _) ?_
      split
      · rw [List.length_append, List.length_cons]; simp; omega
      · rw [List.length_cons]; omega
theorem take_one (s : St) (o : List Cm) (x : Int) (r : List Int) : takeA s o (x :: r) = takeA (takeA s [] [x]).1 (o ++ (takeA s [] [x]).2) r := by
  cases hov : s.over with
  | true => rw [takeA_over hov, takeA_over hov]; rw [takeA_over hov, List.append_nil]
  | false =>
    rw [takeA_cons hov, takeA_cons hov]
    show takeA (stepP s x).1 _ r = takeA (stepP s x).1 (o ++ (if (stepP s x).2.2 = true then [] ++ [(stepP s x).2.1] else [])) r
    generalize stepP s x = p
    obtain ⟨a, c, b⟩ := p
    cases b with
    | true => rfl
    | false =>
      show takeA a o r = takeA a (o ++ []) r
      rw [List.append_nil]
theorem bytesL_one (str : ByteArray) (k : Nat) (h : k < str.size) : bytesL (str.extract k (k + 1)) = [bt str (k : Int)] := by
  have h1 := bytesL_at str k h
  have h2 : (bytesL str).take (k + 1) = (bytesL str).take k ++ [bt str (k : Int)] := by
    have h3 := List.take_append_drop k (bytesL str)
    rw [h1] at h3
    conv => lhs; rw [← h3]
    have hl : ((bytesL str).take k).length = k := by rw [List.length_take, bytesL_len]; omega
    rw [show k + 1 = ((bytesL str).take k).length + 1 by rw [hl], List.take_length_add_append]
    rfl
  unfold bytesL at *
  rw [show (str.extract k (k + 1)).data.toList = (str.data.toList.drop k).take 1 from by
    rw [ByteArray.data_extract, Array.toList_extract, List.extract_eq_take_drop]
    congr 1
    omega]
  rw [List.map_take, List.map_drop, h1]
  rfl
theorem out_nilc {w : World} {v : Value} (h : Out w v []) : ∃ A c, v = .slice A 0 c := Kd.R_slice h
/-- A row that is the call's own has grown. -/
theorem turn_grownO {b : Nat} {v : Value} {w w' : World} (k : w.grownBy w' v.ownBlock) : Turn b v w w' :=
  ⟨k.os, k.tape, k.output, k.size, fun i hi hs => k.block i hi (fun e => hs (.inr e))⟩
/-! ### The set's line -/
def kB : ByteArray := ⟨#[107]⟩
def sevenB : ByteArray := ⟨#[55]⟩
def zeroB : ByteArray := ⟨#[48]⟩
def setHead : ByteArray := ⟨#[115, 101, 116, 32, 107, 32, 55, 32, 48, 32]⟩
def setC (body : ByteArray) : Cm := ⟨2, [kB], 7, 0, body, false, ⟨#[]⟩⟩
theorem words_map (s : ByteArray) : Cmd.wordsB s = (Cmd.wordsL s.data.toList).map Split.toB := by
  unfold Cmd.wordsB Split.splitB Cmd.wordsL
  rw [List.filter_map]
  congr 1
def dig (m : Nat) : UInt8 := (48 + m).toUInt8
theorem dig_nat (m : Nat) (h : m < 10) : (dig m).toNat = 48 + m := by
  have : m = 0 ∨ m = 1 ∨ m = 2 ∨ m = 3 ∨ m = 4 ∨ m = 5 ∨ m = 6 ∨ m = 7 ∨ m = 8 ∨ m = 9 := by omega
  rcases this with rfl | rfl | rfl | rfl | rfl | rfl | rfl | rfl | rfl | rfl <;> rfl
def digs (n : Nat) : List UInt8 := [dig (n / 1000), dig (n / 100 % 10), dig (n / 10 % 10), dig (n % 10)]
theorem digs_mem {n : Nat} (h : n ≤ 1024) (c : UInt8) (hc : c ∈ digs n) : 48 ≤ c.toNat ∧ c.toNat ≤ 57 := by
  unfold digs at hc
  simp only [List.mem_cons, List.not_mem_nil, or_false] at hc
  rcases hc with rfl | rfl | rfl | rfl
  · rw [dig_nat _ (by omega)]; omega
  · rw [dig_nat _ (by omega)]; omega
  · rw [dig_nat _ (by omega)]; omega
  · rw [dig_nat _ (by omega)]; omega
theorem digs_num {n : Nat} (h : n ≤ 1024) : Cmd.numP (Split.toB (digs n)) = some n := by
  unfold Cmd.numP
  have hs : (Split.toB (digs n)).size = 4 := rfl
  rw [hs, if_neg (by omega)]
  show Cmd.numL 0 (digs n) = some n
  unfold digs
  simp only [Cmd.numL]
  rw [dig_nat _ (by omega), dig_nat _ (by omega), dig_nat _ (by omega), dig_nat _ (by omega), if_pos (by omega), if_pos (by omega), if_pos (by omega), if_pos (by omega)]
  congr 1
  omega
theorem digs_amt {n : Nat} (h : n ≤ 1024) : Cmd.amtB (Split.toB (digs n)) = true ∧ Cmd.amtV (Split.toB (digs n)) = (n : Int) := by
  unfold Cmd.amtB Cmd.amtV Cmd.amtP
  rw [digs_num h]
  refine ⟨?_, rfl⟩
  show (if _ then _ else _ : Option Nat).isSome = true
  rw [if_pos (by omega)]
  rfl
def setU (n : Nat) : List UInt8 := setHead.data.toList ++ digs n
theorem setU_words {n : Nat} (h : n ≤ 1024) : Cmd.wordsB (Split.toB (setU n)) = [Cmd.setB, kB, sevenB, zeroB, Split.toB (digs n)] := by
  have hd : (32 : UInt8) ∉ digs n := fun hm => by
    have := digs_mem h 32 hm
    have e : (32 : UInt8).toNat = 32 := rfl
    omega
  rw [words_map]
  show (Cmd.wordsL ([115, 101, 116] ++ 32 :: ([107] ++ 32 :: ([55] ++ 32 :: ([48] ++ 32 :: digs n))))).map Split.toB = _
  rw [Cmd.wordsL_word _ _ (by decide) (by decide), Cmd.wordsL_word _ _ (by decide) (by decide), Cmd.wordsL_word _ _ (by decide) (by decide), Cmd.wordsL_word _ _ (by decide) (by decide), Cmd.wordsL_one _ hd (by unfold digs; exact List.cons_ne_nil _ _)]
  rfl
theorem set_says {n : Nat} (h : n ≤ 1024) : Cmd.parseP [Cmd.setB, kB, sevenB, zeroB, Split.toB (digs n)] = (2, [kB], 7, 0, ⟨#[]⟩, false, ⟨#[]⟩, (n : Int)) := by
  obtain ⟨a1, a2⟩ := digs_amt h
  generalize Split.toB (digs n) = D at *
  have hD : Cmd.dataP [Cmd.setB, kB, sevenB, zeroB, D] = (n : Int) := by
    unfold Cmd.dataP
    have hl : [Cmd.setB, kB, sevenB, zeroB, D].length = 5 := rfl
    rw [if_pos (Or.inl hl)]
    show (if Cmd.amtB D = true then Cmd.amtV D else -1) = _
    rw [a1, if_pos rfl, a2]
  have hg : Cmd.setB ≠ Cmd.getB := fun e => absurd (congrArg (fun b : ByteArray => b.data.toList) e) (by decide)
  unfold Cmd.parseP
  rw [if_neg (by simp)]
  show (if Cmd.setB = Cmd.getB then _ else if Cmd.setB = Cmd.setB then _ else _) = _
  rw [if_neg hg, if_pos rfl]
  unfold Cmd.setP
  rw [hD, if_neg (by omega), if_neg (by rintro ⟨h, _⟩; simp at h)]
  have b1 : Cmd.amtB sevenB = true := by decide
  have b2 : Cmd.momB zeroB = true := by decide
  have b3 : Cmd.keyP kB = true := by decide
  show (if Cmd.amtB sevenB = true ∧ Cmd.momB zeroB = true ∧ Cmd.keyP kB = true then _ else _) = _
  rw [if_pos ⟨b1, b2, b3⟩, if_neg (by omega)]
  have b4 : Cmd.amtV sevenB = 7 := by decide
  have b5 : Cmd.momV zeroB = 0 := by decide
  show (2, [kB], Cmd.amtV sevenB, Cmd.momV zeroB, _, _, _, _) = _
  rw [b4, b5]
  rfl
theorem setU_line {n : Nat} (h : n ≤ 1024) : lineP ((setU n).map (fun b => (b.toNat : Int)) ++ [13]) = (2, [kB], 7, 0, ⟨#[]⟩, false, ⟨#[]⟩, (n : Int)) := by
  unfold lineP lineL
  rw [List.getLast?_concat, if_pos rfl, List.dropLast_concat, str_map]
  show Cmd.parseP (Cmd.wordsB (Split.toB (setU n))) = _
  rw [setU_words h, set_says h]
/-- A feed behind the set's line. -/
def sSet (n : Nat) : St := ⟨if (n : Int) = 0 then 3 else 2, [], setC ⟨#[]⟩, (n : Int), 0, false, false⟩
theorem take_set {n : Nat} (h : n ≤ 1024) : takeA st0 [] ((setU n).map (fun b => (b.toNat : Int)) ++ [13, 10]) = (sSet n, []) := by
  have hm : ∀ x, x ∈ (setU n).map (fun b => (b.toNat : Int)) ++ [13] → x ≠ 10 := fun x hx => by
    rcases List.mem_append.1 hx with hx | hx
    · obtain ⟨c, hc, rfl⟩ := List.mem_map.1 hx
      unfold setU at hc
      rcases List.mem_append.1 hc with hc | hc
      · have : ∀ c ∈ setHead.data.toList, c.toNat ≠ 10 := by decide
        have := this c hc
        omega
      · have := digs_mem h c hc
        omega
    · rw [List.mem_singleton] at hx
      omega
  have e : (setU n).map (fun b => (b.toNat : Int)) ++ [13, 10] = ((setU n).map (fun b => (b.toNat : Int)) ++ [13]) ++ [10] := by rw [List.append_assoc]; rfl
  rw [e, takeA_app, take_line _ st0 [] rfl rfl hm (by show 0 + _ ≤ 2048; rw [List.length_append, List.length_map]; show 0 + (14 + 1) ≤ 2048; decide)]
  show takeA { st0 with held := _ } [] [10] = _
  rw [takeA_cons rfl]
  have key : stepP { st0 with held := (setU n).map (fun b => (b.toNat : Int)) ++ [13] } 10 = (sSet n, setC ⟨#[]⟩, false) := by
    unfold stepP
    rw [if_pos rfl, if_pos rfl]
    show (if ansD (lineP ((setU n).map (fun b => (b.toNat : Int)) ++ [13])) < 0 then _ else (({ mode := if ansD (lineP ((setU n).map (fun b => (b.toNat : Int)) ++ [13])) = 0 then 3 else 2, held := [], c := ansC (lineP ((setU n).map (fun b => (b.toNat : Int)) ++ [13])), left := ansD (lineP ((setU n).map (fun b => (b.toNat : Int)) ++ [13])), tail := 0, cr := false, over := false } : St), ansC (lineP ((setU n).map (fun b => (b.toNat : Int)) ++ [13])), (ansC (lineP ((setU n).map (fun b => (b.toNat : Int)) ++ [13]))).kind == 8)) = _
    rw [setU_line h, if_neg (by show ¬ (n : Int) < 0; omega)]
    rfl
  have key2 : stepP { st0 with held := [] ++ ((setU n).map (fun b => (b.toNat : Int)) ++ [13]) } 10 = (sSet n, setC ⟨#[]⟩, false) := key
  show takeA (stepP { st0 with held := [] ++ ((setU n).map (fun b => (b.toNat : Int)) ++ [13]) } 10).1 (if (stepP { st0 with held := [] ++ ((setU n).map (fun b => (b.toNat : Int)) ++ [13]) } 10).2.2 = true then [] ++ [(stepP { st0 with held := [] ++ ((setU n).map (fun b => (b.toNat : Int)) ++ [13]) } 10).2.1] else []) [] = _
  rw [key2]
  rfl
/-- The whole of it. -/
theorem data_law (line body behind : ByteArray) (h : body.size ≤ 1024) (hl : bytesL line = (setU body.size).map (fun b => (b.toNat : Int)) ++ [13, 10]) :
    (takeA st0 [] (bytesL (((line ++ body) ++ crlfB) ++ behind))).2 = setC body :: (takeA st0 [] (bytesL behind)).2 ∧
    (takeA st0 [] (bytesL (((line ++ body) ++ crlfB) ++ behind))).1.held = (takeA st0 [] (bytesL behind)).1.held ∧
    (takeA st0 [] (bytesL (((line ++ body) ++ crlfB) ++ behind))).1.over = (takeA st0 [] (bytesL behind)).1.over := by
  have e1 : takeA (sSet body.size) [] (bytesL body) = (⟨3, bytesL body, setC ⟨#[]⟩, 0, 0, false, false⟩, []) := by
    by_cases h0 : body.size = 0
    · have hb : bytesL body = [] := List.eq_nil_of_length_eq_zero (by rw [bytesL_len, h0])
      rw [hb, h0]
      rfl
    · have hm : sSet body.size = ⟨2, [], setC ⟨#[]⟩, (body.size : Int), 0, false, false⟩ := by
        unfold sSet
        rw [if_neg (by omega)]
      rw [hm, take_data (bytesL body) ⟨2, [], setC ⟨#[]⟩, (body.size : Int), 0, false, false⟩ [] rfl rfl (by show (2 : Int) ≠ 8; decide) (by rw [bytesL_len]; omega) (by rw [bytesL_len])]
      rfl
  have e2 : bytesL crlfB = [13, 10] := rfl
  have e3 : takeA st0 [] (bytesL (((line ++ body) ++ crlfB) ++ behind)) = takeA ⟨0, [], cm0, 0, 1, true, false⟩ [setC body] (bytesL behind) := by
    rw [bytesL_app, bytesL_app, bytesL_app, takeA_app, takeA_app, takeA_app, hl, take_set h, e1, e2, take_tail _ _ rfl rfl rfl (by show (2 : Int) ≠ 8; decide)]
    show takeA ⟨0, [], cm0, 0, 1, true, false⟩ [{ setC ⟨#[]⟩ with body := strOfNums (bytesL body) }] _ = _
    rw [str_bytes]
    rfl
  have hk : Like ⟨0, [], cm0, 0, 1, true, false⟩ st0 := ⟨rfl, rfl, rfl, fun h => absurd h (by show ¬ 2 ≤ 0; decide)⟩
  obtain ⟨k1, k2⟩ := like_take (bytesL behind) _ _ [setC body] hk
  rw [e3]
  refine ⟨k2.trans ?_, ?_, ?_⟩
  · rw [takeA_out]; rfl
  · rw [k1.2.1, takeA_out]
  · rw [k1.2.2.1, takeA_out]
/-! ### Bad lines -/
/-- A line that is bad: it is told, and the feed stands as it stood. -/
theorem bad_law (line : ByteArray) (hx : ∀ x, x ∈ bytesL line → x ≠ 10) (h : 2048 < line.size ∨ ((ansC (lineP (bytesL line))).kind = 8 ∧ ansD (lineP (bytesL line)) < 0)) :
    ∃ c, c.kind = 8 ∧ takeA st0 [] (bytesL line ++ [10]) = (st0, [c]) := by
  by_cases hl : line.size ≤ 2048
  · rcases h with h | ⟨h1, h2⟩
    · omega
    · refine ⟨ansC (lineP (bytesL line)), h1, ?_⟩
      rw [takeA_app, take_line _ st0 [] rfl rfl hx (by show 0 + _ ≤ 2048; rw [bytesL_len]; omega)]
      show takeA { st0 with held := bytesL line } [] [10] = _
      rw [takeA_cons rfl]
      have key : stepP { st0 with held := bytesL line } 10 = (st0, ansC (lineP (bytesL line)), true) := by
        unfold stepP
        rw [if_pos rfl, if_pos rfl]
        show (if ansD (lineP (bytesL line)) < 0 then (({ st0 with held := [], over := (ansC (lineP (bytesL line))).kind == 7 } : St), ansC (lineP (bytesL line)), true) else _) = _
        rw [if_pos h2, h1]
        rfl
      rw [key]
      rfl
  · refine ⟨badC longB, rfl, ?_⟩
    have hp : bytesL line = (bytesL line).take 2048 ++ (bytesL line).drop 2048 := (List.take_append_drop _ _).symm
    obtain ⟨x, r, hr⟩ : ∃ x r, (bytesL line).drop 2048 = x :: r := by
      cases hd : (bytesL line).drop 2048 with
      | nil =>
        have := congrArg List.length hd
        rw [List.length_drop, bytesL_len] at this
        simp at this
        omega
      | cons x r => exact ⟨x, r, rfl⟩
    have ht : ((bytesL line).take 2048).length = 2048 := by rw [List.length_take, bytesL_len]; omega
    rw [hr] at hp
    rw [hp] at hx ⊢
    generalize (bytesL line).take 2048 = A at *
    rw [List.append_assoc, takeA_app, take_line A st0 [] rfl rfl (fun y hy => hx y (List.mem_append_left _ hy)) (by show 0 + _ ≤ 2048; omega)]
    show takeA { st0 with held := A } [] (x :: (r ++ [10])) = _
    rw [takeA_cons rfl, step_long { st0 with held := A } x rfl (hx x (List.mem_append_right _ List.mem_cons_self)) (by show ¬ A.length < 2048; omega)]
    show takeA { st0 with mode := 1 } [badC longB] (r ++ [10]) = _
    rw [takeA_app, take_pass r { st0 with mode := 1 } _ rfl rfl (fun y hy => hx y (List.mem_append_right _ (List.mem_cons_of_mem _ hy)))]
    rfl
end Go.Proofs.YthinmioognadpaaDoor.Feed

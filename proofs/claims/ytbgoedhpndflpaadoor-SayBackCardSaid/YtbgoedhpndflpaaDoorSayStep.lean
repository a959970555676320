/- say.Read reads what say.Items says: the plain law (own text). -/
import Derived.Test.YtbgoedhpndflpaaDoorSayRead
namespace Go.Proofs.YtbgoedhpndflpaaDoor.Say
open Go.RowKit Go.Proofs.YtbgoedhpndflpaaDoorW.PrintWords Go.Proofs.YtbgoedhpndflpaaDoorW.PrintLast Go.Proofs.YtbgoedhpndflpaaDoorW.PrintMore Go.Proofs.YtbgoedhpndflpaaDoor.PSay
set_option linter.unusedVariables false
set_option linter.unusedSimpArgs false
def vw : List UInt8 := [86, 65, 76, 85, 69]
def lineL (x : S30) : List UInt8 := vw ++ 32 :: (x.f0.data.toList ++ 32 :: (Lib.decDigits (flN x) ++ 32 :: Lib.decDigits x.f5.size))
theorem item_data (x : S30) : (itemB x).data.toList = lineL x ++ 13 :: 10 :: (x.f5.data.toList ++ [13, 10]) := by
  unfold itemB lineL
  simp only [data_app, List.append_assoc, List.cons_append]
  rfl
/-- A record that may be said and read. -/
def Good (x : S30) : Prop := x.f1 = ⟨0, 0, 0⟩ ∧ x.f2 = 3 ∧ x.f4 = 0 ∧ (0 ≤ x.f3 ∧ x.f3 ≤ 4294967295) ∧ keyP x.f0 = true ∧ x.f5.size ≤ 1024
theorem good_fl {x : S30} (h : Good x) : (flN x : Int) = x.f3 ∧ flN x ≤ 4294967295 := by
  obtain ⟨_, _, _, ⟨h0, h1⟩, _⟩ := h
  have h2 := fl_eq x
  rw [IntKind.wrap_u64] at h2
  omega
theorem key_mem {s : ByteArray} (h : keyP s = true) : (∀ c, c ∈ s.data.toList → 33 ≤ c.toNat) ∧ 1 ≤ s.size ∧ s.size ≤ 250 := by
  unfold keyP at h
  rw [Bool.and_eq_true, List.all_eq_true, decide_eq_true_eq] at h
  refine ⟨fun c hc => ?_, h.2⟩
  have := h.1 c hc
  unfold okc at this
  rw [decide_eq_true_eq] at this
  exact this.1
theorem not_mem_of {l : List UInt8} {b : UInt8} (n : Nat) (h : ∀ c, c ∈ l → n ≤ c.toNat) (hb : b.toNat < n) : b ∉ l := fun hm => by have := h b hm; omega
theorem dec_ge (n : Nat) : ∀ c, c ∈ Lib.decDigits n → 33 ≤ c.toNat := fun c hc => by have := dec_mem n c hc; omega
theorem line_free {x : S30} (h : Good x) : (10 : UInt8) ∉ lineL x := by
  have hk := (key_mem h.2.2.2.2.1).1
  unfold lineL
  intro hm
  have e32 : (10 : UInt8) ≠ 32 := by decide
  rcases List.mem_append.1 hm with hm | hm
  · exact absurd hm (by decide)
  · rcases List.mem_cons.1 hm with hm | hm
    · exact e32 hm
    · rcases List.mem_append.1 hm with hm | hm
      · exact not_mem_of 33 hk (by decide) hm
      · rcases List.mem_cons.1 hm with hm | hm
        · exact e32 hm
        · rcases List.mem_append.1 hm with hm | hm
          · exact not_mem_of 33 (dec_ge _) (by decide) hm
          · rcases List.mem_cons.1 hm with hm | hm
            · exact e32 hm
            · exact not_mem_of 33 (dec_ge _) (by decide) hm
theorem line_len {x : S30} (h : Good x) : (lineL x).length ≤ 290 := by
  obtain ⟨_, k1, k2⟩ := key_mem h.2.2.2.2.1
  have h1 := dec_len 9 (flN x) (by
    have h2 := (good_fl h).2
    have e : (10 : Nat) ^ (9 + 1) = 10000000000 := by decide
    rw [e]; omega)
  have h3 := dec_len 3 x.f5.size (by
    have h2 := h.2.2.2.2.2
    have e : (10 : Nat) ^ (3 + 1) = 10000 := by decide
    rw [e]; omega)
  have h4 := size_list x.f0
  unfold lineL
  simp only [List.length_append, List.length_cons]
  have h5 : vw.length = 5 := rfl
  omega
theorem line_split {x : S30} (h : Good x) : Split.splitB ⟨(lineL x).toArray⟩ = [⟨vw.toArray⟩, x.f0, decB (flN x), decB x.f5.size] := by
  have hk := (key_mem h.2.2.2.2.1).1
  unfold Split.splitB
  show (Cmd.splitS (lineL x)).map Split.toB = _
  unfold lineL
  rw [Cmd.splitS_part _ _ (by decide), Cmd.splitS_part _ _ (not_mem_of 33 hk (by decide)), Cmd.splitS_part _ _ (not_mem_of 33 (dec_ge _) (by decide)), Cmd.splitS_free _ (not_mem_of 33 (dec_ge _) (by decide))]
  show [Split.toB vw, Split.toB x.f0.data.toList, Split.toB _, Split.toB _] = _
  rw [Split.toB_data]
  rfl
theorem step_nums (q p l m z : Nat) (hq : q = p + l + 2) (hz : z = l + 4 + m) (hm : m ≤ 1024) (hb : q ≤ 2000000) : wrap64 (m : Int) = (m : Int) ∧ wrap64 ((m : Int) + 1) = ((m + 1 : Nat) : Int) ∧ wrap64 ((m : Int) + 2) = ((m + 2 : Nat) : Int) ∧ wrap64 (wrap64 ((q : Int) + (m : Int)) + 2) = ((p + z : Nat) : Int) := by
  refine ⟨w64 (by omega) (by omega), ?_, ?_, ?_⟩
  · rw [w64 (by omega) (by omega)]; omega
  · rw [w64 (by omega) (by omega)]; omega
  · rw [w64 (x := (q : Int) + (m : Int)) (by omega) (by omega), w64 (by omega) (by omega)]; omega
set_option maxHeartbeats 1000000 in
theorem read_step (S : ByteArray) (p k : Nat) (x : S30) (acc : List S30) (R : List UInt8) (hS : S.size ≤ 2000000) (hx : Good x) (hp : p ≤ S.size) (hd : S.data.toList.drop p = (itemB x).data.toList ++ R) (ha : acc.length ≤ 1000) (hk : 300 < k) :
    say_Read.l0 (k + 5) S (p : Int) acc = say_Read.l0 k S ((p + (itemB x).size : Nat) : Int) (acc ++ [x]) := by
  have hln := line_law S p (k + 4) (lineL x) (x.f5.data.toList ++ 13 :: 10 :: R) hS hp (by rw [hd, item_data]; simp only [List.append_assoc, List.cons_append, List.nil_append]) (line_free hx) (line_len hx) (by omega)
  have hl := line_len hx
  have hsp := line_split hx
  obtain ⟨fe, fl⟩ := good_fl hx
  have isz : (itemB x).size = (lineL x).length + 4 + x.f5.size := by
    rw [← size_list, item_data]
    simp only [List.length_append, List.length_cons, List.length_nil]
    rw [size_list]; omega
  have hq : S.data.toList.drop (p + (lineL x).length + 2) = x.f5.data.toList ++ 13 :: 10 :: R := by
    rw [Nat.add_assoc, ← List.drop_drop, hd, item_data]
    have e : (lineL x ++ 13 :: 10 :: (x.f5.data.toList ++ [13, 10])) ++ R = (lineL x ++ [13, 10]) ++ (x.f5.data.toList ++ 13 :: 10 :: R) := by simp
    rw [e]
    exact List.drop_left' (by rw [List.length_append]; rfl)
  obtain ⟨f1, f2, f4, ⟨f3a, f3b⟩, hkey, hbody⟩ := hx
  obtain ⟨_, key1, key2⟩ := key_mem hkey
  have HL86 : Hid (∃ r, lineL x = 86 :: r) := Lib.hid ⟨_, rfl⟩
  have HRES := Lib.hid (show (⟨x.f0, (⟨0, 0, 0⟩ : S28), 3, ((flN x : Nat) : Int) % 4294967296, 0, x.f5⟩ : S30) = x from by
    obtain ⟨a0, a1, a2, a3, a4, a5⟩ := x
    have f1 : a1 = ⟨0, 0, 0⟩ := f1
    have f2 : a2 = 3 := f2
    have f4 : a4 = 0 := f4
    have fe : (flN ⟨a0, a1, a2, a3, a4, a5⟩ : Int) = a3 := fe
    have f3b : a3 ≤ 4294967295 := f3b
    have f3a : 0 ≤ a3 := f3a
    subst f1 f2 f4
    rw [fe, show a3 % 4294967296 = a3 by omega])
  generalize lineL x = L at *
  obtain ⟨q, hqq⟩ : ∃ q, q = p + L.length + 2 := ⟨_, rfl⟩
  rw [← hqq] at hq hln
  have hqs : q ≤ S.size := by
    rcases Nat.lt_or_ge S.size q with h | h
    · rw [List.drop_of_length_le (by rw [size_list]; omega)] at hq
      exact absurd (congrArg List.length hq) (by simp)
    · exact h
  have hX : (S.extract q S.size).data.toList = x.f5.data.toList ++ 13 :: 10 :: R := by rw [ext_drop, hq]
  have hXs : (S.extract q S.size).size = x.f5.size + 2 + R.length := by
    rw [← size_list, hX]
    simp only [List.length_append, List.length_cons]
    rw [size_list]; omega
  have hb0 : (S.extract q S.size).data.toList.drop x.f5.size = 13 :: 10 :: R := by rw [hX]; exact List.drop_left' (size_list _)
  have hb1 : (S.extract q S.size).data.toList.drop (x.f5.size + 1) = 10 :: R := by
    rw [← List.drop_drop, hb0]; rfl
  have B0 := Lib.hid (bt_of hb0).1
  have B1 := Lib.hid (bt_of hb1).1
  have HX0 := Lib.hid (show (S.extract q S.size).extract 0 x.f5.size = x.f5 from ext_list (by
    rw [Split.extract_data, hX, List.drop_zero]
    exact List.take_left' (size_list _)))
  have HLN := Lib.hid hln
  have HSP := Lib.hid hsp
  clear hX hb0 hb1 hq hln hsp hd
  have HKM := Lib.hid (show rec_KeyMay.f (k + 4) x.f0 = some true from by rw [keyMay_is x.f0 (k + 4) (by clear fe; omega) (by clear fe; omega), hkey])
  have N1 := Lib.hid (number_law (flN x) 4294967295 (k + 3) (by clear fe; omega) (by decide) (by omega))
  have N2 := Lib.hid (number_law x.f5.size 1024 (k + 3) (by omega) (by decide) (by omega))
  have hLs : L.toArray.size ≤ 1000000 := by rw [List.size_toArray]; omega
  have g1 : ((S.extract q S.size).size : Int) > (x.f5.size : Int) := by rw [hXs]; clear fe; omega
  have g2 : ((S.extract q S.size).size : Int) > ((x.f5.size + 1 : Nat) : Int) := by rw [hXs]; clear fe; omega
  have g3 : ¬ ((S.extract q S.size).size : Int) < ((x.f5.size + 2 : Nat) : Int) := by rw [hXs]; clear fe; omega
  have g4 : (x.f5.size : Int) ≤ ((S.extract q S.size).size : Int) := by rw [hXs]; clear fe; omega
  have g5 : acc.length < 2199023255552 := by omega
  obtain ⟨w1, w2, w3, w4⟩ := step_nums q p L.length x.f5.size (itemB x).size hqq isz hbody (Nat.le_trans hqs hS)
  generalize (itemB x).size = zz at *
  clear hqq isz fe fl f3a f3b
  have hL : ∃ r, L = 86 :: r := HL86.out
  have hne : ¬ (⟨L.toArray⟩ : ByteArray).toList = [69, 78, 68] := by
    rw [Lib.toList_data]
    obtain ⟨r, e⟩ := hL
    rw [e]
    intro e
    injection e with e _
    exact absurd e (by decide)
  clear hL
  have r0 : rdOf ByteArray.empty [(⟨vw.toArray⟩ : ByteArray), x.f0, decB (flN x), decB x.f5.size] 0 = ⟨vw.toArray⟩ := rfl
  have r1 : rdOf ByteArray.empty [(⟨vw.toArray⟩ : ByteArray), x.f0, decB (flN x), decB x.f5.size] 1 = x.f0 := rfl
  have r2 : rdOf ByteArray.empty [(⟨vw.toArray⟩ : ByteArray), x.f0, decB (flN x), decB x.f5.size] 2 = decB (flN x) := rfl
  have r3 : rdOf ByteArray.empty [(⟨vw.toArray⟩ : ByteArray), x.f0, decB (flN x), decB x.f5.size] 3 = decB x.f5.size := rfl
  have r4 : ([(⟨vw.toArray⟩ : ByteArray), x.f0, decB (flN x), decB x.f5.size] : List ByteArray).length = 4 := rfl
  have hv : (⟨vw.toArray⟩ : ByteArray).toList = [86, 65, 76, 85, 69] := by rw [Lib.toList_data]; rfl
  have hsplit : strings_Split.f ⟨L.toArray⟩ ⟨#[32]⟩ = some [(⟨vw.toArray⟩ : ByteArray), x.f0, decB (flN x), decB x.f5.size] := by
    unfold strings_Split.f
    rw [if_pos ⟨rfl, hLs⟩, HSP.out]
  generalize [(⟨vw.toArray⟩ : ByteArray), x.f0, decB (flN x), decB x.f5.size] = W at *
  have gl : ((W.length : Nat) : Int) = 4 := by rw [r4]; rfl
  have hres : (⟨x.f0, (⟨0, 0, 0⟩ : S28), 3, ((flN x : Nat) : Int) % 4294967296, 0, x.f5⟩ : S30) = x := HRES.out
  rw [show k + 5 = (k + 4) + 1 from rfl, say_Read.l0, HLN.out, Option.bind_some]
  show (if (0 : Int) = 0 then (if (⟨L.toArray⟩ : ByteArray).toList = ([69, 78, 68] : List UInt8) then _ else _) else _) = _
  rw [if_pos rfl, if_neg hne, hsplit, Option.bind_some, if_pos gl, if_pos (by rw [gl]; decide), r0, if_pos hv, if_pos (by rw [gl]; decide), r1, HKM.out, Option.bind_some]
  show say_Read.j2 ((k + 3) + 1) S acc (q : Int) W false = _
  rw [say_Read.j2, if_neg Bool.false_ne_true, if_pos (by rw [gl]; decide), r2, N1.out, Option.bind_some, if_pos (by rw [gl]; decide), r3, N2.out, Option.bind_some]
  show (if true = true then say_Read.j3 (k + 3) S acc (q : Int) W (flN x : Int) (x.f5.size : Int) (!true) else _) = _
  rw [if_pos rfl]
  show say_Read.j3 ((k + 2) + 1) S acc (q : Int) W (flN x : Int) (x.f5.size : Int) false = _
  rw [say_Read.j3, if_neg Bool.false_ne_true, if_pos (Int.natCast_nonneg q), if_pos (Int.ofNat_le.2 hqs), Int.toNat_natCast, w1]
  have B0' := B0.out
  have B1' := B1.out
  have HX0' := HX0.out
  generalize S.extract q S.size = X at *
  rw [if_pos g1, if_pos (Int.natCast_nonneg _), if_pos g1, B0']
  show say_Read.j4 ((k + 1) + 1) S acc (q : Int) W (flN x : Int) (x.f5.size : Int) X false = _
  rw [say_Read.j4, if_neg Bool.false_ne_true, w2, if_pos g2, if_pos (Int.natCast_nonneg _), if_pos g2, B1']
  show say_Read.j5 (k + 1) S acc (q : Int) W (flN x : Int) (x.f5.size : Int) X false = _
  rw [say_Read.j5, if_neg Bool.false_ne_true, w3, if_neg g3, if_pos (by rw [gl]; decide), if_pos (Int.natCast_nonneg _), if_pos g4, if_pos g5, w4, r1, Int.toNat_natCast, HX0', hres]
end Go.Proofs.YtbgoedhpndflpaaDoor.Say

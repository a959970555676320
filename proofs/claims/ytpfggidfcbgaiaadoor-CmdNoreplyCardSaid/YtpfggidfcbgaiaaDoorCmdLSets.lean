/- CmdSets: the plain law, and the walk (own text). -/
import Derived.Test.YtpfggidfcbgaiaaDoorCmdFix
import Derived.Test.YtpfggidfcbgaiaaDoorCmdWords
namespace Go.Proofs.YtpfggidfcbgaiaaDoor.CmdLSets
open Go.RowKit Go.Proofs.YtpfggidfcbgaiaaDoorW.PrintWords Go.Proofs.YtpfggidfcbgaiaaDoorW.PrintLast Go.Proofs.YtpfggidfcbgaiaaDoorW.PrintMore Go.Proofs.YtpfggidfcbgaiaaDoor.PCmd Go.Proofs.YtpfggidfcbgaiaaDoor.Split Go.Proofs.YtpfggidfcbgaiaaDoor.Cmd
set_option linter.unusedVariables false
set_option linter.unusedSimpArgs false
theorem digits_c (n : Int) (h0 : -10000000000 < n) (h1 : n < 10000000000) (w : World) : Calls Tryd.prog 13 #[.int .i64 n] w fun e w' => e = .returned (.string (digB n)) ∧ Below w.heap.size w w' :=
  tattlerlaw07_digits.calls 13 n _ w (digits_is n h0 h1)
theorem refKey_c (s : ByteArray) (w : World) : Calls Tryd.prog 12 #[.string s] w fun e w' => e = .returned (.bool (keyP s)) ∧ Drawn0 w w' := tattlerref06_KeyMay.calls 253 s _ w (refKey_is s 253 (by omega))
theorem parse_c (s : ByteArray) (hs : s.size ≤ 1000000) (a : Ans) (h : parseP (wordsB s) = a) (w : World) : Calls Tryd.prog 9 #[.string s] w fun e w' => ∃ A c, e = .returned (.tuple #[.agg #[.int .i64 a.1, .slice A a.2.1.length c, .int .u32 a.2.2.1, .int .i64 a.2.2.2.1, .string a.2.2.2.2.1, .bool a.2.2.2.2.2.1, .string a.2.2.2.2.2.2.1], .int .i64 a.2.2.2.2.2.2.2]) ∧ a.2.1.length ≤ c ∧ Hid (Kd.C Kd.string w' A a.2.1.length a.2.1) ∧ Below w.heap.size w w' := by
  refine (parse_any s hs w).mono ?_
  rw [h]
  rintro e w' ⟨v, rfl, hQ, hb⟩
  obtain ⟨A, c, rfl, hc, hC⟩ := Kd.Q_reads hQ
  exact ⟨A, c, rfl, hc, Lib.hid hC, hb⟩
theorem set_free : 32 ∉ setB.data.toList ∧ setB.data.toList ≠ [] := by decide
theorem nr_free : 32 ∉ noreplyB.data.toList ∧ noreplyB.data.toList ≠ [] := by decide
def lineN (key : ByteArray) (fl ex by' : Int) : ByteArray := (((((((⟨#[115, 101, 116, 32]⟩ : ByteArray) ++ key) ++ (⟨#[32]⟩ : ByteArray)) ++ digB fl) ++ (⟨#[32]⟩ : ByteArray)) ++ digB ex) ++ (⟨#[32]⟩ : ByteArray)) ++ digB by'
def lineY (key : ByteArray) (fl ex by' : Int) : ByteArray := lineN key fl ex by' ++ (⟨#[32, 110, 111, 114, 101, 112, 108, 121]⟩ : ByteArray)
theorem lineN_data (key : ByteArray) (fl ex by' : Int) : (lineN key fl ex by').data.toList = setB.data.toList ++ 32 :: (key.data.toList ++ 32 :: ((digB fl).data.toList ++ 32 :: ((digB ex).data.toList ++ 32 :: (digB by').data.toList))) := by
  unfold lineN
  simp only [data_app, List.append_assoc]
  rfl
theorem lineY_data (key : ByteArray) (fl ex by' : Int) : (lineY key fl ex by').data.toList = setB.data.toList ++ 32 :: (key.data.toList ++ 32 :: ((digB fl).data.toList ++ 32 :: ((digB ex).data.toList ++ 32 :: ((digB by').data.toList ++ 32 :: noreplyB.data.toList)))) := by
  unfold lineY
  rw [data_app, lineN_data]
  simp only [List.append_assoc, List.cons_append]
  rfl
theorem lineN_words (key : ByteArray) (fl ex by' : Int) (hk : keyP key = true) : wordsB (lineN key fl ex by') = [setB, key, digB fl, digB ex, digB by'] := by
  obtain ⟨k1, k2, _⟩ := key_free hk
  rw [wordsB_map, lineN_data, wordsB_cons _ _ set_free.1 set_free.2, wordsB_cons _ _ k1 k2, wordsB_cons _ _ (digB_free _).1 (digB_free _).2, wordsB_cons _ _ (digB_free _).1 (digB_free _).2, wordsB_last _ (digB_free _).1 (digB_free _).2]
theorem lineY_words (key : ByteArray) (fl ex by' : Int) (hk : keyP key = true) : wordsB (lineY key fl ex by') = [setB, key, digB fl, digB ex, digB by', noreplyB] := by
  obtain ⟨k1, k2, _⟩ := key_free hk
  rw [wordsB_map, lineY_data, wordsB_cons _ _ set_free.1 set_free.2, wordsB_cons _ _ k1 k2, wordsB_cons _ _ (digB_free _).1 (digB_free _).2, wordsB_cons _ _ (digB_free _).1 (digB_free _).2, wordsB_cons _ _ (digB_free _).1 (digB_free _).2, wordsB_last _ nr_free.1 nr_free.2]
theorem bne {a b : ByteArray} (h : a.data.toList ≠ b.data.toList) : a ≠ b := fun e => h (by rw [e])
/-- What such a line says. -/
theorem says (key : ByteArray) (fl ex by' : Int) (q : Bool) (hk : keyP key = true) (f0 : 0 ≤ fl ∧ fl ≤ 4294967295) (x0 : -2147483648 ≤ ex ∧ ex ≤ 2147483647) (y0 : 0 ≤ by' ∧ by' ≤ 4294967295) :
    parseP (if q then [setB, key, digB fl, digB ex, digB by', noreplyB] else [setB, key, digB fl, digB ex, digB by']) = if 1024 < by' then badA bigB by' else (2, [key], fl, ex, ⟨#[]⟩, q, ⟨#[]⟩, by') := by
  obtain ⟨f, rfl⟩ := Int.eq_ofNat_of_zero_le f0.1
  obtain ⟨b, rfl⟩ := Int.eq_ofNat_of_zero_le y0.1
  obtain ⟨a1, a2⟩ := amt_dig f (by omega)
  obtain ⟨b1, b2⟩ := amt_dig b (by omega)
  obtain ⟨m1, m2⟩ := mom_dig ex (by omega) (by omega)
  have hg : setB ≠ getB := bne (by decide)
  cases q with
  | true =>
    simp only [if_true]
    have hD : dataP [setB, key, digB (f : Int), digB ex, digB (b : Int), noreplyB] = (b : Int) := by
      unfold dataP
      have hl : [setB, key, digB (f : Int), digB ex, digB (b : Int), noreplyB].length = 6 := rfl
      rw [if_pos (Or.inr hl)]
      show (if amtB (digB (b : Int)) = true then amtV (digB (b : Int)) else -1) = _
      rw [b1, if_pos rfl, b2]
    unfold parseP
    rw [if_neg (by simp)]
    show (if setB = getB then _ else if setB = setB then _ else _) = _
    rw [if_neg hg, if_pos rfl]
    unfold setP
    rw [hD, if_neg (by omega), if_neg (by rintro ⟨_, h⟩; exact h rfl)]
    show (if amtB (digB (f : Int)) = true ∧ momB (digB ex) = true ∧ keyP key = true then _ else _) = _
    rw [if_pos ⟨a1, m1, hk⟩]
    show (if 1024 < (b : Int) then _ else (2, [key], amtV (digB (f : Int)), momV (digB ex), _, true, _, _)) = _
    rw [a2, m2]
  | false =>
    simp only [Bool.false_eq_true, if_false]
    have hD : dataP [setB, key, digB (f : Int), digB ex, digB (b : Int)] = (b : Int) := by
      unfold dataP
      have hl : [setB, key, digB (f : Int), digB ex, digB (b : Int)].length = 5 := rfl
      rw [if_pos (Or.inl hl)]
      show (if amtB (digB (b : Int)) = true then amtV (digB (b : Int)) else -1) = _
      rw [b1, if_pos rfl, b2]
    unfold parseP
    rw [if_neg (by simp)]
    show (if setB = getB then _ else if setB = setB then _ else _) = _
    rw [if_neg hg, if_pos rfl]
    unfold setP
    rw [hD, if_neg (by omega), if_neg (by rintro ⟨h, _⟩; simp at h)]
    show (if amtB (digB (f : Int)) = true ∧ momB (digB ex) = true ∧ keyP key = true then _ else _) = _
    rw [if_pos ⟨a1, m1, hk⟩]
    show (if 1024 < (b : Int) then _ else (2, [key], amtV (digB (f : Int)), momV (digB ex), _, false, _, _)) = _
    rw [a2, m2]
theorem C_one {W : World} {B : Nat} {key : ByteArray} (h : W.cell? ⟨B, 0, none⟩ = some (.string key)) : Kd.C Kd.string W (some ⟨B, 0, none⟩) 1 [key] := by
  refine ⟨rfl, by omega, fun _ => ⟨_, rfl, fun j p hp => ?_⟩⟩
  obtain ⟨rfl, rfl⟩ : j = 0 ∧ key = p := by
    cases j with
    | zero => exact ⟨rfl, by simpa using hp⟩
    | succ j => simp at hp
  refine ⟨[.string key], rfl, rfl, fun i u hu => ?_⟩
  cases i with
  | zero =>
    rw [Go.WideShapes.add_plain]
    have : u = .string key := by simpa using hu.symm
    rw [this]
    exact h
  | succ i => simp at hu
theorem same_one (A : Option Addr) (c B : Nat) (key : ByteArray) (fl ex : Int) (q : Bool) (W : World) (hC : Kd.C Kd.string W A 1 [key]) (hc : 1 ≤ c) (hcell : W.cell? ⟨B, 0, none⟩ = some (.string key)) :
    Calls Tryd.prog 11 #[.agg #[.int .i64 2, .slice A 1 c, .int .u32 fl, .int .i64 ex, .string ⟨#[]⟩, .bool q, .string ⟨#[]⟩], .agg #[.int .i64 2, .slice (some ⟨B, 0, none⟩) 1 1, .int .u32 fl, .int .i64 ex, .string ⟨#[]⟩, .bool q, .string ⟨#[]⟩]] W fun e w' => e = .returned (.bool true) ∧ Below W.heap.size W w' := by
  have h := tattlerref07_Same.calls _ 2 A c [key] fl ex ⟨#[]⟩ q ⟨#[]⟩ 2 (some ⟨B, 0, none⟩) 1 [key] fl ex ⟨#[]⟩ q ⟨#[]⟩ _ W hC hc (C_one hcell) (Nat.le_refl _) (same_is 2 [key] fl ex ⟨#[]⟩ q ⟨#[]⟩ 2 [key] fl ex ⟨#[]⟩ q ⟨#[]⟩ (by simp))
  have e : sameP 2 [key] fl ex ⟨#[]⟩ q ⟨#[]⟩ 2 [key] fl ex ⟨#[]⟩ q ⟨#[]⟩ = true := decide_eq_true ⟨rfl, rfl, rfl, rfl, rfl, rfl, rfl⟩
  rw [e] at h
  exact h
set_option maxRecDepth 100000 in
set_option maxHeartbeats 1600000 in
theorem ok_no (key : ByteArray) (fl ex by' : Int) (w : World) (hk : keyP key = true) (f0 : 0 ≤ fl ∧ fl ≤ 4294967295) (x0 : -2147483648 ≤ ex ∧ ex ≤ 2147483647) (y0 : 0 ≤ by' ∧ by' ≤ 4294967295) (hbig : ¬ 1024 < by') :
    Calls Tryd.prog 6 #[.string key, .int .u32 fl, .int .i32 ex, .int .u32 by', .bool false] w fun e w' => e = .returned (.bool true) ∧ Below w.heap.size w w' := by
  have zk := (key_free hk).2.2
  have zf := digB_size fl
  have ze := digB_size ex
  have zb := digB_size by'
  have CP : Hid (∀ w, Calls Tryd.prog 9 #[.string (((((((((⟨#[115, 101, 116, 32]⟩ : ByteArray) ++ key) ++ (⟨#[32]⟩ : ByteArray)) ++ digB fl) ++ (⟨#[32]⟩ : ByteArray)) ++ digB ex) ++ (⟨#[32]⟩ : ByteArray)) ++ digB by'))] w fun e w' => ∃ A c, e = .returned (.tuple #[.agg #[.int .i64 2, .slice A 1 c, .int .u32 fl, .int .i64 ex, .string ⟨#[]⟩, .bool false, .string ⟨#[]⟩], .int .i64 by']) ∧ 1 ≤ c ∧ Hid (Kd.C Kd.string w' A 1 [key]) ∧ Below w.heap.size w w') := by
    have hs := says key fl ex by' false hk f0 x0 y0
    rw [if_neg (by simp), if_neg hbig] at hs
    have hw := lineN_words key fl ex by' hk
    have hz : (lineN key fl ex by').size ≤ 1000000 := by
      unfold lineN
      simp only [size_app]
      have e1 : (⟨#[115, 101, 116, 32]⟩ : ByteArray).size = 4 := rfl
      have e2 : (⟨#[32]⟩ : ByteArray).size = 1 := rfl
      omega
    have hp := fun w => parse_c (lineN key fl ex by') hz (2, [key], fl, ex, ⟨#[]⟩, false, ⟨#[]⟩, by') (by rw [hw]; exact hs) w
    exact Lib.hid hp
  have CK := Lib.hid (fun w => refKey_c key w)
  rw [hk] at CK
  have CF := Lib.hid (fun w => digits_c fl (by omega) (by omega) w)
  have CE := Lib.hid (fun w => digits_c ex (by omega) (by omega) w)
  have CB := Lib.hid (fun w => digits_c by' (by omega) (by omega) w)
  have CX := Lib.hid fixed_any
  have wf : IntKind.i64.wrap fl = fl := IntWalk.i64_in _ ⟨by omega, by omega⟩
  have we : IntKind.i64.wrap ex = ex := IntWalk.i64_in _ ⟨by omega, by omega⟩
  have wb : IntKind.i64.wrap by' = by' := IntWalk.i64_in _ ⟨by omega, by omega⟩
  have tb : decide ((1024 : Int) < by') = false := decide_eq_false hbig
  clear hk hbig
  go_enter Tryd.func6, Tryd.ntmps6
  go_wp2_with (first
    | (go_at_call 12; (with_reducible refine (CK.out _).mono ?_); rintro e w' ⟨rfl, ⟨nd, rfl⟩⟩)
    | (go_at_call 13; (with_reducible refine (CF.out _).mono ?_); rintro e w1 ⟨rfl, hb1⟩)
    | (go_at_call 13; (with_reducible refine (CE.out _).mono ?_); rintro e w2 ⟨rfl, hb2⟩)
    | (go_at_call 13; (with_reducible refine (CB.out _).mono ?_); rintro e w3 ⟨rfl, hb3⟩)
    | (go_at_call 9; (with_reducible refine (CP.out _).mono ?_); rintro e w4 ⟨A, c, rfl, hc, hC, hb4⟩)
    | (go_at_call 8; (with_reducible refine (CX.out _).mono ?_); rintro e w5 ⟨rfl, hb5⟩; have z5 := hb5.size; (simp at z5); have y5 : w4.heap.size < w5.heap.size := (by omega); have k5 := bcell2 hb5)
    | (go_at_call 11; refine (same_one A c _ key fl ex false _ (Kd.C_below hC.out (by repeat (first | (with_reducible first | exact Below.refl _ _ | apply below_alloc | apply pw_below_drewN | apply below_drew1) | refine below_step ?_ hb5))) hc (by go_simp)).mono ?_; rintro e w6 ⟨rfl, hb6⟩))
  go_ret
  refine ⟨rfl, ?_⟩
  repeat (first | (with_reducible first | exact Below.refl _ _ | apply below_alloc | apply pw_below_drewN | apply below_drew1) | refine below_step ?_ hb1 | refine below_step ?_ hb2 | refine below_step ?_ hb3 | refine below_step ?_ hb4 | refine below_step ?_ hb5 | refine below_step ?_ hb6)
set_option maxRecDepth 100000 in
set_option maxHeartbeats 1600000 in
theorem ok_yes (key : ByteArray) (fl ex by' : Int) (w : World) (hk : keyP key = true) (f0 : 0 ≤ fl ∧ fl ≤ 4294967295) (x0 : -2147483648 ≤ ex ∧ ex ≤ 2147483647) (y0 : 0 ≤ by' ∧ by' ≤ 4294967295) (hbig : ¬ 1024 < by') :
    Calls Tryd.prog 6 #[.string key, .int .u32 fl, .int .i32 ex, .int .u32 by', .bool true] w fun e w' => e = .returned (.bool true) ∧ Below w.heap.size w w' := by
  have zk := (key_free hk).2.2
  have zf := digB_size fl
  have ze := digB_size ex
  have zb := digB_size by'
  have CP : Hid (∀ w, Calls Tryd.prog 9 #[.string (((((((((⟨#[115, 101, 116, 32]⟩ : ByteArray) ++ key) ++ (⟨#[32]⟩ : ByteArray)) ++ digB fl) ++ (⟨#[32]⟩ : ByteArray)) ++ digB ex) ++ (⟨#[32]⟩ : ByteArray)) ++ digB by') ++ (⟨#[32, 110, 111, 114, 101, 112, 108, 121]⟩ : ByteArray))] w fun e w' => ∃ A c, e = .returned (.tuple #[.agg #[.int .i64 2, .slice A 1 c, .int .u32 fl, .int .i64 ex, .string ⟨#[]⟩, .bool true, .string ⟨#[]⟩], .int .i64 by']) ∧ 1 ≤ c ∧ Hid (Kd.C Kd.string w' A 1 [key]) ∧ Below w.heap.size w w') := by
    have hs := says key fl ex by' true hk f0 x0 y0
    rw [if_pos rfl, if_neg hbig] at hs
    have hw := lineY_words key fl ex by' hk
    have hz : (lineY key fl ex by').size ≤ 1000000 := by
      unfold lineY lineN
      simp only [size_app]
      have e1 : (⟨#[115, 101, 116, 32]⟩ : ByteArray).size = 4 := rfl
      have e2 : (⟨#[32]⟩ : ByteArray).size = 1 := rfl
      have e3 : (⟨#[32, 110, 111, 114, 101, 112, 108, 121]⟩ : ByteArray).size = 8 := rfl
      omega
    have hp := fun w => parse_c (lineY key fl ex by') hz (2, [key], fl, ex, ⟨#[]⟩, true, ⟨#[]⟩, by') (by rw [hw]; exact hs) w
    exact Lib.hid hp
  have CK := Lib.hid (fun w => refKey_c key w)
  rw [hk] at CK
  have CF := Lib.hid (fun w => digits_c fl (by omega) (by omega) w)
  have CE := Lib.hid (fun w => digits_c ex (by omega) (by omega) w)
  have CB := Lib.hid (fun w => digits_c by' (by omega) (by omega) w)
  have CX := Lib.hid fixed_any
  have wf : IntKind.i64.wrap fl = fl := IntWalk.i64_in _ ⟨by omega, by omega⟩
  have we : IntKind.i64.wrap ex = ex := IntWalk.i64_in _ ⟨by omega, by omega⟩
  have wb : IntKind.i64.wrap by' = by' := IntWalk.i64_in _ ⟨by omega, by omega⟩
  have tb : decide ((1024 : Int) < by') = false := decide_eq_false hbig
  clear hk hbig
  go_enter Tryd.func6, Tryd.ntmps6
  go_wp2_with (first
    | (go_at_call 12; (with_reducible refine (CK.out _).mono ?_); rintro e w' ⟨rfl, ⟨nd, rfl⟩⟩)
    | (go_at_call 13; (with_reducible refine (CF.out _).mono ?_); rintro e w1 ⟨rfl, hb1⟩)
    | (go_at_call 13; (with_reducible refine (CE.out _).mono ?_); rintro e w2 ⟨rfl, hb2⟩)
    | (go_at_call 13; (with_reducible refine (CB.out _).mono ?_); rintro e w3 ⟨rfl, hb3⟩)
    | (go_at_call 9; (with_reducible refine (CP.out _).mono ?_); rintro e w4 ⟨A, c, rfl, hc, hC, hb4⟩)
    | (go_at_call 8; (with_reducible refine (CX.out _).mono ?_); rintro e w5 ⟨rfl, hb5⟩; have z5 := hb5.size; (simp at z5); have y5 : w4.heap.size < w5.heap.size := (by omega); have k5 := bcell2 hb5)
    | (go_at_call 11; refine (same_one A c _ key fl ex true _ (Kd.C_below hC.out (by repeat (first | (with_reducible first | exact Below.refl _ _ | apply below_alloc | apply pw_below_drewN | apply below_drew1) | refine below_step ?_ hb5))) hc (by go_simp)).mono ?_; rintro e w6 ⟨rfl, hb6⟩))
  go_ret
  refine ⟨rfl, ?_⟩
  repeat (first | (with_reducible first | exact Below.refl _ _ | apply below_alloc | apply pw_below_drewN | apply below_drew1) | refine below_step ?_ hb1 | refine below_step ?_ hb2 | refine below_step ?_ hb3 | refine below_step ?_ hb4 | refine below_step ?_ hb5 | refine below_step ?_ hb6)
set_option maxRecDepth 100000 in
set_option maxHeartbeats 1600000 in
theorem big_no (key : ByteArray) (fl ex by' : Int) (w : World) (hk : keyP key = true) (f0 : 0 ≤ fl ∧ fl ≤ 4294967295) (x0 : -2147483648 ≤ ex ∧ ex ≤ 2147483647) (y0 : 0 ≤ by' ∧ by' ≤ 4294967295) (hbig : 1024 < by') :
    Calls Tryd.prog 6 #[.string key, .int .u32 fl, .int .i32 ex, .int .u32 by', .bool false] w fun e w' => e = .returned (.bool true) ∧ Below w.heap.size w w' := by
  have zk := (key_free hk).2.2
  have zf := digB_size fl
  have ze := digB_size ex
  have zb := digB_size by'
  have CP : Hid (∀ w, Calls Tryd.prog 9 #[.string (((((((((⟨#[115, 101, 116, 32]⟩ : ByteArray) ++ key) ++ (⟨#[32]⟩ : ByteArray)) ++ digB fl) ++ (⟨#[32]⟩ : ByteArray)) ++ digB ex) ++ (⟨#[32]⟩ : ByteArray)) ++ digB by'))] w fun e w' => ∃ A c, e = .returned (.tuple #[.agg #[.int .i64 8, .slice A 0 c, .int .u32 0, .int .i64 0, .string ⟨#[]⟩, .bool false, .string bigB], .int .i64 by']) ∧ Below w.heap.size w w') := by
    have hs := says key fl ex by' false hk f0 x0 y0
    rw [if_neg (by simp), if_pos hbig] at hs
    have hw := lineN_words key fl ex by' hk
    have hz : (lineN key fl ex by').size ≤ 1000000 := by
      unfold lineN
      simp only [size_app]
      have e1 : (⟨#[115, 101, 116, 32]⟩ : ByteArray).size = 4 := rfl
      have e2 : (⟨#[32]⟩ : ByteArray).size = 1 := rfl
      omega
    have hp := fun w => parse_c (lineN key fl ex by') hz (badA bigB by') (by rw [hw]; exact hs) w
    refine Lib.hid (fun w => (hp w).mono ?_)
    rintro e w' ⟨A, c, he, _, _, hb⟩
    exact ⟨A, c, he, hb⟩
  have CK := Lib.hid (fun w => refKey_c key w)
  rw [hk] at CK
  have CF := Lib.hid (fun w => digits_c fl (by omega) (by omega) w)
  have CE := Lib.hid (fun w => digits_c ex (by omega) (by omega) w)
  have CB := Lib.hid (fun w => digits_c by' (by omega) (by omega) w)
  have CX := Lib.hid fixed_any
  have wf : IntKind.i64.wrap fl = fl := IntWalk.i64_in _ ⟨by omega, by omega⟩
  have we : IntKind.i64.wrap ex = ex := IntWalk.i64_in _ ⟨by omega, by omega⟩
  have wb : IntKind.i64.wrap by' = by' := IntWalk.i64_in _ ⟨by omega, by omega⟩
  have tb : decide ((1024 : Int) < by') = true := decide_eq_true hbig
  clear hk hbig
  go_enter Tryd.func6, Tryd.ntmps6
  go_wp2_with (first
    | (go_at_call 12; (with_reducible refine (CK.out _).mono ?_); rintro e w' ⟨rfl, ⟨nd, rfl⟩⟩)
    | (go_at_call 13; (with_reducible refine (CF.out _).mono ?_); rintro e w1 ⟨rfl, hb1⟩)
    | (go_at_call 13; (with_reducible refine (CE.out _).mono ?_); rintro e w2 ⟨rfl, hb2⟩)
    | (go_at_call 13; (with_reducible refine (CB.out _).mono ?_); rintro e w3 ⟨rfl, hb3⟩)
    | (go_at_call 9; (with_reducible refine (CP.out _).mono ?_); rintro e w4 ⟨A, c, rfl, hb4⟩)
    | (go_at_call 8; (with_reducible refine (CX.out _).mono ?_); rintro e w5 ⟨rfl, hb5⟩; have z5 := hb5.size; (simp at z5); have y5 : w4.heap.size < w5.heap.size := (by omega); have k5 := bcell2 hb5))
  go_ret
  refine ⟨rfl, ?_⟩
  repeat (first | (with_reducible first | exact Below.refl _ _ | apply below_alloc | apply pw_below_drewN | apply below_drew1) | refine below_step ?_ hb1 | refine below_step ?_ hb2 | refine below_step ?_ hb3 | refine below_step ?_ hb4 | refine below_step ?_ hb5)
set_option maxRecDepth 100000 in
set_option maxHeartbeats 1600000 in
theorem big_yes (key : ByteArray) (fl ex by' : Int) (w : World) (hk : keyP key = true) (f0 : 0 ≤ fl ∧ fl ≤ 4294967295) (x0 : -2147483648 ≤ ex ∧ ex ≤ 2147483647) (y0 : 0 ≤ by' ∧ by' ≤ 4294967295) (hbig : 1024 < by') :
    Calls Tryd.prog 6 #[.string key, .int .u32 fl, .int .i32 ex, .int .u32 by', .bool true] w fun e w' => e = .returned (.bool true) ∧ Below w.heap.size w w' := by
  have zk := (key_free hk).2.2
  have zf := digB_size fl
  have ze := digB_size ex
  have zb := digB_size by'
  have CP : Hid (∀ w, Calls Tryd.prog 9 #[.string (((((((((⟨#[115, 101, 116, 32]⟩ : ByteArray) ++ key) ++ (⟨#[32]⟩ : ByteArray)) ++ digB fl) ++ (⟨#[32]⟩ : ByteArray)) ++ digB ex) ++ (⟨#[32]⟩ : ByteArray)) ++ digB by') ++ (⟨#[32, 110, 111, 114, 101, 112, 108, 121]⟩ : ByteArray))] w fun e w' => ∃ A c, e = .returned (.tuple #[.agg #[.int .i64 8, .slice A 0 c, .int .u32 0, .int .i64 0, .string ⟨#[]⟩, .bool false, .string bigB], .int .i64 by']) ∧ Below w.heap.size w w') := by
    have hs := says key fl ex by' true hk f0 x0 y0
    rw [if_pos rfl, if_pos hbig] at hs
    have hw := lineY_words key fl ex by' hk
    have hz : (lineY key fl ex by').size ≤ 1000000 := by
      unfold lineY lineN
      simp only [size_app]
      have e1 : (⟨#[115, 101, 116, 32]⟩ : ByteArray).size = 4 := rfl
      have e2 : (⟨#[32]⟩ : ByteArray).size = 1 := rfl
      have e3 : (⟨#[32, 110, 111, 114, 101, 112, 108, 121]⟩ : ByteArray).size = 8 := rfl
      omega
    have hp := fun w => parse_c (lineY key fl ex by') hz (badA bigB by') (by rw [hw]; exact hs) w
    refine Lib.hid (fun w => (hp w).mono ?_)
    rintro e w' ⟨A, c, he, _, _, hb⟩
    exact ⟨A, c, he, hb⟩
  have CK := Lib.hid (fun w => refKey_c key w)
  rw [hk] at CK
  have CF := Lib.hid (fun w => digits_c fl (by omega) (by omega) w)
  have CE := Lib.hid (fun w => digits_c ex (by omega) (by omega) w)
  have CB := Lib.hid (fun w => digits_c by' (by omega) (by omega) w)
  have CX := Lib.hid fixed_any
  have wf : IntKind.i64.wrap fl = fl := IntWalk.i64_in _ ⟨by omega, by omega⟩
  have we : IntKind.i64.wrap ex = ex := IntWalk.i64_in _ ⟨by omega, by omega⟩
  have wb : IntKind.i64.wrap by' = by' := IntWalk.i64_in _ ⟨by omega, by omega⟩
  have tb : decide ((1024 : Int) < by') = true := decide_eq_true hbig
  clear hk hbig
  go_enter Tryd.func6, Tryd.ntmps6
  go_wp2_with (first
    | (go_at_call 12; (with_reducible refine (CK.out _).mono ?_); rintro e w' ⟨rfl, ⟨nd, rfl⟩⟩)
    | (go_at_call 13; (with_reducible refine (CF.out _).mono ?_); rintro e w1 ⟨rfl, hb1⟩)
    | (go_at_call 13; (with_reducible refine (CE.out _).mono ?_); rintro e w2 ⟨rfl, hb2⟩)
    | (go_at_call 13; (with_reducible refine (CB.out _).mono ?_); rintro e w3 ⟨rfl, hb3⟩)
    | (go_at_call 9; (with_reducible refine (CP.out _).mono ?_); rintro e w4 ⟨A, c, rfl, hb4⟩)
    | (go_at_call 8; (with_reducible refine (CX.out _).mono ?_); rintro e w5 ⟨rfl, hb5⟩; have z5 := hb5.size; (simp at z5); have y5 : w4.heap.size < w5.heap.size := (by omega); have k5 := bcell2 hb5))
  go_ret
  refine ⟨rfl, ?_⟩
  repeat (first | (with_reducible first | exact Below.refl _ _ | apply below_alloc | apply pw_below_drewN | apply below_drew1) | refine below_step ?_ hb1 | refine below_step ?_ hb2 | refine below_step ?_ hb3 | refine below_step ?_ hb4 | refine below_step ?_ hb5)
theorem not_key (key : ByteArray) (fl ex by' : Int) (q : Bool) (w : World) (hk : keyP key = false) : Calls Tryd.prog 6 #[.string key, .int .u32 fl, .int .i32 ex, .int .u32 by', .bool q] w fun e w' => e = .returned (.bool true) ∧ Below w.heap.size w w' := by
  have CK := Lib.hid (fun w => refKey_c key w)
  rw [hk] at CK
  have CX := Lib.hid fixed_any
  clear hk
  go_enter Tryd.func6, Tryd.ntmps6
  go_wp2_with (first
    | (go_at_call 12; (with_reducible refine (CK.out _).mono ?_); rintro e w' ⟨rfl, ⟨nd, rfl⟩⟩)
    | (go_at_call 8; (with_reducible refine (CX.out _).mono ?_); rintro e w5 ⟨rfl, hb5⟩))
  go_ret
  exact ⟨rfl, below_step (by apply pw_below_drewN; exact Below.refl _ _) hb5⟩
theorem walk (key : ByteArray) (fl ex by' : Int) (q : Bool) (w : World) (f0 : 0 ≤ fl ∧ fl ≤ 4294967295) (x0 : -2147483648 ≤ ex ∧ ex ≤ 2147483647) (y0 : 0 ≤ by' ∧ by' ≤ 4294967295) :
    Calls Tryd.prog 6 #[.string key, .int .u32 fl, .int .i32 ex, .int .u32 by', .bool q] w fun e w' => e = .returned (.bool true) ∧ Below w.heap.size w w' := by
  cases hk : keyP key with
  | false => exact not_key key fl ex by' q w hk
  | true =>
    by_cases hbig : 1024 < by'
    · cases q with
      | false => exact big_no key fl ex by' w hk f0 x0 y0 hbig
      | true => exact big_yes key fl ex by' w hk f0 x0 y0 hbig
    · cases q with
      | false => exact ok_no key fl ex by' w hk f0 x0 y0 hbig
      | true => exact ok_yes key fl ex by' w hk f0 x0 y0 hbig
end Go.Proofs.YtpfggidfcbgaiaaDoor.CmdLSets

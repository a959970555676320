/- CmdNoreply: the plain law, and the walk (own text; printed by wip/tools/gen_cmdnoreply.py, a program of this session). -/
import Derived.Test.YtpfggidfcbgaiaaDoorCmdLSets
namespace Go.Proofs.YtpfggidfcbgaiaaDoor.CmdLNoreply
open Go.RowKit Go.Proofs.YtpfggidfcbgaiaaDoorW.PrintWords Go.Proofs.YtpfggidfcbgaiaaDoorW.PrintLast Go.Proofs.YtpfggidfcbgaiaaDoorW.PrintMore Go.Proofs.YtpfggidfcbgaiaaDoor.PCmd Go.Proofs.YtpfggidfcbgaiaaDoor.Split Go.Proofs.YtpfggidfcbgaiaaDoor.Cmd Go.Proofs.YtpfggidfcbgaiaaDoor.CmdLSets
set_option linter.unusedVariables false
set_option linter.unusedSimpArgs false
theorem del_free : 32 ∉ deleteB.data.toList ∧ deleteB.data.toList ≠ [] := by decide
theorem touch_free : 32 ∉ touchB.data.toList ∧ touchB.data.toList ≠ [] := by decide
def zeroB : ByteArray := ⟨#[48]⟩
theorem zero_free : 32 ∉ zeroB.data.toList ∧ zeroB.data.toList ≠ [] := by decide
def nrT : ByteArray := ⟨#[32, 110, 111, 114, 101, 112, 108, 121]⟩
def l0 (key : ByteArray) : ByteArray := (⟨#[100, 101, 108, 101, 116, 101, 32]⟩ : ByteArray) ++ key
def l1 (key : ByteArray) (n : Int) : ByteArray := (((⟨#[116, 111, 117, 99, 104, 32]⟩ : ByteArray) ++ key) ++ (⟨#[32]⟩ : ByteArray)) ++ digB n
def l2 (key : ByteArray) (m : Int) : ByteArray := (((⟨#[115, 101, 116, 32]⟩ : ByteArray) ++ key) ++ (⟨#[32, 48, 32, 48, 32]⟩ : ByteArray)) ++ digB m
theorem l0_data (key : ByteArray) : (l0 key).data.toList = deleteB.data.toList ++ 32 :: key.data.toList := by unfold l0; simp only [data_app, List.append_assoc]; rfl
theorem l1_data (key : ByteArray) (n : Int) : (l1 key n).data.toList = touchB.data.toList ++ 32 :: (key.data.toList ++ 32 :: (digB n).data.toList) := by unfold l1; simp only [data_app, List.append_assoc]; rfl
theorem l2_data (key : ByteArray) (m : Int) : (l2 key m).data.toList = setB.data.toList ++ 32 :: (key.data.toList ++ 32 :: (zeroB.data.toList ++ 32 :: (zeroB.data.toList ++ 32 :: (digB m).data.toList))) := by unfold l2; simp only [data_app, List.append_assoc]; rfl
theorem nr_data (x : ByteArray) : (x ++ (⟨#[32, 110, 111, 114, 101, 112, 108, 121]⟩ : ByteArray)).data.toList = x.data.toList ++ 32 :: noreplyB.data.toList := by rw [data_app]; rfl
theorem w0 (key : ByteArray) (hk : keyP key = true) : wordsB (l0 key) = [deleteB, key] ∧ wordsB (l0 key ++ (⟨#[32, 110, 111, 114, 101, 112, 108, 121]⟩ : ByteArray)) = [deleteB, key, noreplyB] := by
  obtain ⟨k1, k2, _⟩ := key_free hk
  refine ⟨?_, ?_⟩
  · rw [wordsB_map, l0_data, wordsB_cons _ _ del_free.1 del_free.2, wordsB_last _ k1 k2]
  · rw [wordsB_map, nr_data, l0_data, List.append_assoc, List.cons_append, wordsB_cons _ _ del_free.1 del_free.2, wordsB_cons _ _ k1 k2, wordsB_last _ nr_free.1 nr_free.2]
theorem w1 (key : ByteArray) (n : Int) (hk : keyP key = true) : wordsB (l1 key n) = [touchB, key, digB n] ∧ wordsB (l1 key n ++ (⟨#[32, 110, 111, 114, 101, 112, 108, 121]⟩ : ByteArray)) = [touchB, key, digB n, noreplyB] := by
  obtain ⟨k1, k2, _⟩ := key_free hk
  refine ⟨?_, ?_⟩
  · rw [wordsB_map, l1_data, wordsB_cons _ _ touch_free.1 touch_free.2, wordsB_cons _ _ k1 k2, wordsB_last _ (digB_free n).1 (digB_free n).2]
  · rw [wordsB_map, nr_data, l1_data]
    simp only [List.append_assoc, List.cons_append]
    rw [wordsB_cons _ _ touch_free.1 touch_free.2, wordsB_cons _ _ k1 k2, wordsB_cons _ _ (digB_free n).1 (digB_free n).2, wordsB_last _ nr_free.1 nr_free.2]
theorem zero_dig : zeroB = digB 0 := by decide +kernel
theorem w2 (key : ByteArray) (m : Int) (hk : keyP key = true) : wordsB (l2 key m) = [setB, key, digB 0, digB 0, digB m] ∧ wordsB (l2 key m ++ (⟨#[32, 110, 111, 114, 101, 112, 108, 121]⟩ : ByteArray)) = [setB, key, digB 0, digB 0, digB m, noreplyB] := by
  obtain ⟨k1, k2, _⟩ := key_free hk
  rw [← zero_dig]
  refine ⟨?_, ?_⟩
  · rw [wordsB_map, l2_data, wordsB_cons _ _ set_free.1 set_free.2, wordsB_cons _ _ k1 k2, wordsB_cons _ _ zero_free.1 zero_free.2, wordsB_cons _ _ zero_free.1 zero_free.2, wordsB_last _ (digB_free m).1 (digB_free m).2]
  · rw [wordsB_map, nr_data, l2_data]
    simp only [List.append_assoc, List.cons_append]
    rw [wordsB_cons _ _ set_free.1 set_free.2, wordsB_cons _ _ k1 k2, wordsB_cons _ _ zero_free.1 zero_free.2, wordsB_cons _ _ zero_free.1 zero_free.2, wordsB_cons _ _ (digB_free m).1 (digB_free m).2, wordsB_last _ nr_free.1 nr_free.2]
theorem p0 (key : ByteArray) (hk : keyP key = true) : parseP [deleteB, key] = (3, [key], 0, 0, ⟨#[]⟩, false, ⟨#[]⟩, -1) ∧ parseP [deleteB, key, noreplyB] = (3, [key], 0, 0, ⟨#[]⟩, true, ⟨#[]⟩, -1) := by
  have h1 : deleteB ≠ getB := bne (by decide)
  have h2 : deleteB ≠ setB := bne (by decide)
  refine ⟨?_, ?_⟩ <;> unfold parseP <;> rw [if_neg (by simp)]
  · rw [show wd [deleteB, key] 0 = deleteB from rfl, if_neg h1, if_neg h2, if_pos rfl]
    have hC : ([deleteB, key].length = 2 ∨ [deleteB, key].length = 3 ∧ wd [deleteB, key] 2 = noreplyB) ∧ keyP (wd [deleteB, key] 1) = true := ⟨Or.inl rfl, hk⟩
    rw [if_pos hC]
    rfl
  · rw [show wd [deleteB, key, noreplyB] 0 = deleteB from rfl, if_neg h1, if_neg h2, if_pos rfl]
    have hC : ([deleteB, key, noreplyB].length = 2 ∨ [deleteB, key, noreplyB].length = 3 ∧ wd [deleteB, key, noreplyB] 2 = noreplyB) ∧ keyP (wd [deleteB, key, noreplyB] 1) = true := ⟨Or.inr ⟨rfl, rfl⟩, hk⟩
    rw [if_pos hC]
    rfl
theorem p1 (key : ByteArray) (n : Int) (hk : keyP key = true) (hn : 0 ≤ n ∧ n ≤ 65535) : parseP [touchB, key, digB n] = (4, [key], 0, n, ⟨#[]⟩, false, ⟨#[]⟩, -1) ∧ parseP [touchB, key, digB n, noreplyB] = (4, [key], 0, n, ⟨#[]⟩, true, ⟨#[]⟩, -1) := by
  have h1 : touchB ≠ getB := bne (by decide)
  have h2 : touchB ≠ setB := bne (by decide)
  have h3 : touchB ≠ deleteB := bne (by decide)
  obtain ⟨m1, m2⟩ := mom_dig n (by omega) (by omega)
  refine ⟨?_, ?_⟩ <;> unfold parseP <;> rw [if_neg (by simp)]
  · rw [show wd [touchB, key, digB n] 0 = touchB from rfl, if_neg h1, if_neg h2, if_neg h3, if_pos rfl]
    have hC : ([touchB, key, digB n].length = 3 ∨ [touchB, key, digB n].length = 4 ∧ wd [touchB, key, digB n] 3 = noreplyB) ∧ momB (wd [touchB, key, digB n] 2) = true ∧ keyP (wd [touchB, key, digB n] 1) = true := ⟨Or.inl rfl, m1, hk⟩
    rw [if_pos hC]
    show (4, [key], 0, momV (digB n), _, _, _, _) = _
    rw [m2]
    rfl
  · rw [show wd [touchB, key, digB n, noreplyB] 0 = touchB from rfl, if_neg h1, if_neg h2, if_neg h3, if_pos rfl]
    have hC : ([touchB, key, digB n, noreplyB].length = 3 ∨ [touchB, key, digB n, noreplyB].length = 4 ∧ wd [touchB, key, digB n, noreplyB] 3 = noreplyB) ∧ momB (wd [touchB, key, digB n, noreplyB] 2) = true ∧ keyP (wd [touchB, key, digB n, noreplyB] 1) = true := ⟨Or.inr ⟨rfl, rfl⟩, m1, hk⟩
    rw [if_pos hC]
    show (4, [key], 0, momV (digB n), _, _, _, _) = _
    rw [m2]
    rfl
theorem p2 (key : ByteArray) (m : Int) (hk : keyP key = true) (hm : 0 ≤ m ∧ m ≤ 1024) : parseP [setB, key, digB 0, digB 0, digB m] = (2, [key], 0, 0, ⟨#[]⟩, false, ⟨#[]⟩, m) ∧ parseP [setB, key, digB 0, digB 0, digB m, noreplyB] = (2, [key], 0, 0, ⟨#[]⟩, true, ⟨#[]⟩, m) := by
  have a := says key 0 0 m false hk (by omega) (by omega) (by omega)
  have b := says key 0 0 m true hk (by omega) (by omega) (by omega)
  rw [if_neg (by simp), if_neg (by omega)] at a
  rw [if_pos rfl, if_neg (by omega)] at b
  exact ⟨a, b⟩
theorem same_two (A B : Option Addr) (c d : Nat) (key : ByteArray) (kd fl ex : Int) (W : World) (hA : Kd.C Kd.string W A 1 [key]) (hc : 1 ≤ c) (hB : Kd.C Kd.string W B 1 [key]) (hd : 1 ≤ d) :
    Calls Tryd.prog 11 #[.agg #[.int .i64 kd, .slice A 1 c, .int .u32 fl, .int .i64 ex, .string ⟨#[]⟩, .bool false, .string ⟨#[]⟩], .agg #[.int .i64 kd, .slice B 1 d, .int .u32 fl, .int .i64 ex, .string ⟨#[]⟩, .bool false, .string ⟨#[]⟩]] W fun e w' => e = .returned (.bool true) ∧ Below W.heap.size W w' := by
  have h := tattlerref07_Same.calls _ kd A c [key] fl ex ⟨#[]⟩ false ⟨#[]⟩ kd B d [key] fl ex ⟨#[]⟩ false ⟨#[]⟩ _ W hA hc hB hd (same_is kd [key] fl ex ⟨#[]⟩ false ⟨#[]⟩ kd [key] fl ex ⟨#[]⟩ false ⟨#[]⟩ (by simp))
  have e : sameP kd [key] fl ex ⟨#[]⟩ false ⟨#[]⟩ kd [key] fl ex ⟨#[]⟩ false ⟨#[]⟩ = true := decide_eq_true ⟨rfl, rfl, rfl, rfl, rfl, rfl, rfl⟩
  rw [e] at h
  exact h
set_option maxRecDepth 100000 in
set_option maxHeartbeats 1600000 in
theorem way0 (key : ByteArray) (kind n : Int) (w : World) (hk : keyP key = true) (hkd : 0 ≤ kind ∧ kind ≤ 255) (h3 : kind % 3 = 0) (hn : 0 ≤ n ∧ n ≤ 65535) :
    Calls Tryd.prog 7 #[.string key, .int .u8 kind, .int .u16 n] w fun e w' => e = .returned (.bool true) ∧ Below w.heap.size w w' := by
  have zk := (key_free hk).2.2
  have zn := digB_size n
  have zm := digB_size (n % 1025)
  have e8 : (⟨#[32, 110, 111, 114, 101, 112, 108, 121]⟩ : ByteArray).size = 8 := rfl
  have z : (l0 key).size ≤ 1000 := by
    unfold l0
    simp only [size_app]
    have e1 : (⟨#[100, 101, 108, 101, 116, 101, 32]⟩ : ByteArray).size = 7 := rfl
    have e2 : (⟨#[116, 111, 117, 99, 104, 32]⟩ : ByteArray).size = 6 := rfl
    have e3 : (⟨#[115, 101, 116, 32]⟩ : ByteArray).size = 4 := rfl
    have e4 : (⟨#[32]⟩ : ByteArray).size = 1 := rfl
    have e5 : (⟨#[32, 48, 32, 48, 32]⟩ : ByteArray).size = 5 := rfl
    omega
  obtain ⟨hw, hwn⟩ := w0 key hk
  obtain ⟨hp, hpn⟩ := p0 key hk
  have CP : Hid (∀ w, Calls Tryd.prog 9 #[.string ((⟨#[100, 101, 108, 101, 116, 101, 32]⟩ : ByteArray) ++ key)] w fun e w' => ∃ A c, e = .returned (.tuple #[.agg #[.int .i64 3, .slice A 1 c, .int .u32 0, .int .i64 0, .string ⟨#[]⟩, .bool false, .string ⟨#[]⟩], .int .i64 (-1)]) ∧ 1 ≤ c ∧ Hid (Kd.C Kd.string w' A 1 [key]) ∧ Below w.heap.size w w') := Lib.hid (fun w => parse_c (l0 key) (by omega) (3, [key], 0, 0, ⟨#[]⟩, false, ⟨#[]⟩, (-1)) (by rw [hw]; exact hp) w)
  have CN : Hid (∀ w, Calls Tryd.prog 9 #[.string (((⟨#[100, 101, 108, 101, 116, 101, 32]⟩ : ByteArray) ++ key) ++ (⟨#[32, 110, 111, 114, 101, 112, 108, 121]⟩ : ByteArray))] w fun e w' => ∃ A c, e = .returned (.tuple #[.agg #[.int .i64 3, .slice A 1 c, .int .u32 0, .int .i64 0, .string ⟨#[]⟩, .bool true, .string ⟨#[]⟩], .int .i64 (-1)]) ∧ 1 ≤ c ∧ Hid (Kd.C Kd.string w' A 1 [key]) ∧ Below w.heap.size w w') := Lib.hid (fun w => parse_c (l0 key ++ (⟨#[32, 110, 111, 114, 101, 112, 108, 121]⟩ : ByteArray)) (by rw [size_app]; omega) (3, [key], 0, 0, ⟨#[]⟩, true, ⟨#[]⟩, (-1)) (by rw [hwn]; exact hpn) w)
  have CK := Lib.hid (fun w => refKey_c key w)
  rw [hk] at CK
  have CF := Lib.hid (fun w => digits_c n (by omega) (by omega) w)
  have CM := Lib.hid (fun w => digits_c (n % 1025) (by omega) (by omega) w)
  have CX := Lib.hid fixed_any
  have wf : IntKind.i64.wrap n = n := IntWalk.i64_in _ ⟨by omega, by omega⟩
  have wt : Int.tmod n 1025 = n % 1025 := Int.tmod_eq_emod_of_nonneg hn.1
  have wk : Int.tmod kind 3 = 0 := by rw [Int.tmod_eq_emod_of_nonneg hkd.1]; exact h3
  have wk2 : kind % 3 = 0 := h3
  clear hk h3 hp hpn hw hwn e8 z
  go_enter Tryd.func7, Tryd.ntmps7
  go_wp2_with (first
    | (go_at_call 12; (with_reducible refine (CK.out _).mono ?_); rintro e w' ⟨rfl, ⟨nd, rfl⟩⟩)
    | (go_at_call 13; (with_reducible refine (CF.out _).mono ?_); rintro e w1 ⟨rfl, hb1⟩)
    | (go_at_call 13; (with_reducible refine (CM.out _).mono ?_); rintro e w2 ⟨rfl, hb2⟩)
    | (go_at_call 9; (with_reducible refine (CP.out _).mono ?_); rintro e w3 ⟨A, c, rfl, hc, hC, hb3⟩)
    | (go_at_call 9; (with_reducible refine (CN.out _).mono ?_); rintro e w4 ⟨B, d, rfl, hd, hD, hb4⟩; have z4 := hb4.size; (simp at z4); have y4 : w3.heap.size < w4.heap.size := (by omega); have k4 := bcell2 hb4)
    | (go_at_call 8; (with_reducible refine (CX.out _).mono ?_); rintro e w5 ⟨rfl, hb5⟩; have z5 := hb5.size; (simp at z5); have y5 : w4.heap.size < w5.heap.size := (by omega); have y6 : w3.heap.size < w5.heap.size := (by omega); have k5 := bcell2 hb5)
    | (go_at_call 11; (refine (same_two A B c d key 3 0 0 _ (Kd.C_below hC.out (by repeat (first | (with_reducible first | exact Below.refl _ _ | apply below_alloc | apply pw_below_drewN | apply below_drew1) | refine below_step ?_ hb5 | refine below_step ?_ hb4 | refine below_set ?_ (by omega)))) hc (Kd.C_below hD.out (by repeat (first | (with_reducible first | exact Below.refl _ _ | apply below_alloc | apply pw_below_drewN | apply below_drew1) | refine below_step ?_ hb5 | refine below_set ?_ (by omega)))) hd).mono ?_; rintro e w6 ⟨rfl, hb6⟩; have z6 := hb6.size; have y7 : w3.heap.size < w6.heap.size := (by omega); have k6 := bcell2 hb6)))
  go_ret
  refine ⟨rfl, ?_⟩
  repeat (first | (with_reducible first | exact Below.refl _ _ | apply below_alloc | apply pw_below_drewN | apply below_drew1) | refine below_step ?_ hb1 | refine below_step ?_ hb2 | refine below_step ?_ hb3 | refine below_step ?_ hb4 | refine below_step ?_ hb5 | refine below_step ?_ hb6 | refine below_set ?_ (by omega))
set_option maxRecDepth 100000 in
set_option maxHeartbeats 1600000 in
theorem way1 (key : ByteArray) (kind n : Int) (w : World) (hk : keyP key = true) (hkd : 0 ≤ kind ∧ kind ≤ 255) (h3 : kind % 3 = 1) (hn : 0 ≤ n ∧ n ≤ 65535) :
    Calls Tryd.prog 7 #[.string key, .int .u8 kind, .int .u16 n] w fun e w' => e = .returned (.bool true) ∧ Below w.heap.size w w' := by
  have zk := (key_free hk).2.2
  have zn := digB_size n
  have zm := digB_size (n % 1025)
  have e8 : (⟨#[32, 110, 111, 114, 101, 112, 108, 121]⟩ : ByteArray).size = 8 := rfl
  have z : (l1 key n).size ≤ 1000 := by
    unfold l1
    simp only [size_app]
    have e1 : (⟨#[100, 101, 108, 101, 116, 101, 32]⟩ : ByteArray).size = 7 := rfl
    have e2 : (⟨#[116, 111, 117, 99, 104, 32]⟩ : ByteArray).size = 6 := rfl
    have e3 : (⟨#[115, 101, 116, 32]⟩ : ByteArray).size = 4 := rfl
    have e4 : (⟨#[32]⟩ : ByteArray).size = 1 := rfl
    have e5 : (⟨#[32, 48, 32, 48, 32]⟩ : ByteArray).size = 5 := rfl
    omega
  obtain ⟨hw, hwn⟩ := w1 key n hk
  obtain ⟨hp, hpn⟩ := p1 key n hk hn
  have CP : Hid (∀ w, Calls Tryd.prog 9 #[.string ((((⟨#[116, 111, 117, 99, 104, 32]⟩ : ByteArray) ++ key) ++ (⟨#[32]⟩ : ByteArray)) ++ digB n)] w fun e w' => ∃ A c, e = .returned (.tuple #[.agg #[.int .i64 4, .slice A 1 c, .int .u32 0, .int .i64 n, .string ⟨#[]⟩, .bool false, .string ⟨#[]⟩], .int .i64 (-1)]) ∧ 1 ≤ c ∧ Hid (Kd.C Kd.string w' A 1 [key]) ∧ Below w.heap.size w w') := Lib.hid (fun w => parse_c (l1 key n) (by omega) (4, [key], 0, n, ⟨#[]⟩, false, ⟨#[]⟩, (-1)) (by rw [hw]; exact hp) w)
  have CN : Hid (∀ w, Calls Tryd.prog 9 #[.string (((((⟨#[116, 111, 117, 99, 104, 32]⟩ : ByteArray) ++ key) ++ (⟨#[32]⟩ : ByteArray)) ++ digB n) ++ (⟨#[32, 110, 111, 114, 101, 112, 108, 121]⟩ : ByteArray))] w fun e w' => ∃ A c, e = .returned (.tuple #[.agg #[.int .i64 4, .slice A 1 c, .int .u32 0, .int .i64 n, .string ⟨#[]⟩, .bool true, .string ⟨#[]⟩], .int .i64 (-1)]) ∧ 1 ≤ c ∧ Hid (Kd.C Kd.string w' A 1 [key]) ∧ Below w.heap.size w w') := Lib.hid (fun w => parse_c (l1 key n ++ (⟨#[32, 110, 111, 114, 101, 112, 108, 121]⟩ : ByteArray)) (by rw [size_app]; omega) (4, [key], 0, n, ⟨#[]⟩, true, ⟨#[]⟩, (-1)) (by rw [hwn]; exact hpn) w)
  have CK := Lib.hid (fun w => refKey_c key w)
  rw [hk] at CK
  have CF := Lib.hid (fun w => digits_c n (by omega) (by omega) w)
  have CM := Lib.hid (fun w => digits_c (n % 1025) (by omega) (by omega) w)
  have CX := Lib.hid fixed_any
  have wf : IntKind.i64.wrap n = n := IntWalk.i64_in _ ⟨by omega, by omega⟩
  have wt : Int.tmod n 1025 = n % 1025 := Int.tmod_eq_emod_of_nonneg hn.1
  have wk : Int.tmod kind 3 = 1 := by rw [Int.tmod_eq_emod_of_nonneg hkd.1]; exact h3
  have wk2 : kind % 3 = 1 := h3
  clear hk h3 hp hpn hw hwn e8 z
  go_enter Tryd.func7, Tryd.ntmps7
  go_wp2_with (first
    | (go_at_call 12; (with_reducible refine (CK.out _).mono ?_); rintro e w' ⟨rfl, ⟨nd, rfl⟩⟩)
    | (go_at_call 13; (with_reducible refine (CF.out _).mono ?_); rintro e w1 ⟨rfl, hb1⟩)
    | (go_at_call 13; (with_reducible refine (CM.out _).mono ?_); rintro e w2 ⟨rfl, hb2⟩)
    | (go_at_call 9; (with_reducible refine (CP.out _).mono ?_); rintro e w3 ⟨A, c, rfl, hc, hC, hb3⟩)
    | (go_at_call 9; (with_reducible refine (CN.out _).mono ?_); rintro e w4 ⟨B, d, rfl, hd, hD, hb4⟩; have z4 := hb4.size; (simp at z4); have y4 : w3.heap.size < w4.heap.size := (by omega); have k4 := bcell2 hb4)
    | (go_at_call 8; (with_reducible refine (CX.out _).mono ?_); rintro e w5 ⟨rfl, hb5⟩; have z5 := hb5.size; (simp at z5); have y5 : w4.heap.size < w5.heap.size := (by omega); have y6 : w3.heap.size < w5.heap.size := (by omega); have k5 := bcell2 hb5)
    | (go_at_call 11; (refine (same_two A B c d key 4 0 n _ (Kd.C_below hC.out (by repeat (first | (with_reducible first | exact Below.refl _ _ | apply below_alloc | apply pw_below_drewN | apply below_drew1) | refine below_step ?_ hb5 | refine below_step ?_ hb4 | refine below_set ?_ (by omega)))) hc (Kd.C_below hD.out (by repeat (first | (with_reducible first | exact Below.refl _ _ | apply below_alloc | apply pw_below_drewN | apply below_drew1) | refine below_step ?_ hb5 | refine below_set ?_ (by omega)))) hd).mono ?_; rintro e w6 ⟨rfl, hb6⟩; have z6 := hb6.size; have y7 : w3.heap.size < w6.heap.size := (by omega); have k6 := bcell2 hb6)))
  go_ret
  refine ⟨rfl, ?_⟩
  repeat (first | (with_reducible first | exact Below.refl _ _ | apply below_alloc | apply pw_below_drewN | apply below_drew1) | refine below_step ?_ hb1 | refine below_step ?_ hb2 | refine below_step ?_ hb3 | refine below_step ?_ hb4 | refine below_step ?_ hb5 | refine below_step ?_ hb6 | refine below_set ?_ (by omega))
set_option maxRecDepth 100000 in
set_option maxHeartbeats 1600000 in
theorem way2 (key : ByteArray) (kind n : Int) (w : World) (hk : keyP key = true) (hkd : 0 ≤ kind ∧ kind ≤ 255) (h3 : kind % 3 = 2) (hn : 0 ≤ n ∧ n ≤ 65535) :
    Calls Tryd.prog 7 #[.string key, .int .u8 kind, .int .u16 n] w fun e w' => e = .returned (.bool true) ∧ Below w.heap.size w w' := by
  have zk := (key_free hk).2.2
  have zn := digB_size n
  have zm := digB_size (n % 1025)
  have e8 : (⟨#[32, 110, 111, 114, 101, 112, 108, 121]⟩ : ByteArray).size = 8 := rfl
  have z : (l2 key (n % 1025)).size ≤ 1000 := by
    unfold l2
    simp only [size_app]
    have e1 : (⟨#[100, 101, 108, 101, 116, 101, 32]⟩ : ByteArray).size = 7 := rfl
    have e2 : (⟨#[116, 111, 117, 99, 104, 32]⟩ : ByteArray).size = 6 := rfl
    have e3 : (⟨#[115, 101, 116, 32]⟩ : ByteArray).size = 4 := rfl
    have e4 : (⟨#[32]⟩ : ByteArray).size = 1 := rfl
    have e5 : (⟨#[32, 48, 32, 48, 32]⟩ : ByteArray).size = 5 := rfl
    omega
  obtain ⟨hw, hwn⟩ := w2 key (n % 1025) hk
  obtain ⟨hp, hpn⟩ := p2 key (n % 1025) hk (by omega)
  have CP : Hid (∀ w, Calls Tryd.prog 9 #[.string ((((⟨#[115, 101, 116, 32]⟩ : ByteArray) ++ key) ++ (⟨#[32, 48, 32, 48, 32]⟩ : ByteArray)) ++ digB (n % 1025))] w fun e w' => ∃ A c, e = .returned (.tuple #[.agg #[.int .i64 2, .slice A 1 c, .int .u32 0, .int .i64 0, .string ⟨#[]⟩, .bool false, .string ⟨#[]⟩], .int .i64 (n % 1025)]) ∧ 1 ≤ c ∧ Hid (Kd.C Kd.string w' A 1 [key]) ∧ Below w.heap.size w w') := Lib.hid (fun w => parse_c (l2 key (n % 1025)) (by omega) (2, [key], 0, 0, ⟨#[]⟩, false, ⟨#[]⟩, (n % 1025)) (by rw [hw]; exact hp) w)
  have CN : Hid (∀ w, Calls Tryd.prog 9 #[.string (((((⟨#[115, 101, 116, 32]⟩ : ByteArray) ++ key) ++ (⟨#[32, 48, 32, 48, 32]⟩ : ByteArray)) ++ digB (n % 1025)) ++ (⟨#[32, 110, 111, 114, 101, 112, 108, 121]⟩ : ByteArray))] w fun e w' => ∃ A c, e = .returned (.tuple #[.agg #[.int .i64 2, .slice A 1 c, .int .u32 0, .int .i64 0, .string ⟨#[]⟩, .bool true, .string ⟨#[]⟩], .int .i64 (n % 1025)]) ∧ 1 ≤ c ∧ Hid (Kd.C Kd.string w' A 1 [key]) ∧ Below w.heap.size w w') := Lib.hid (fun w => parse_c (l2 key (n % 1025) ++ (⟨#[32, 110, 111, 114, 101, 112, 108, 121]⟩ : ByteArray)) (by rw [size_app]; omega) (2, [key], 0, 0, ⟨#[]⟩, true, ⟨#[]⟩, (n % 1025)) (by rw [hwn]; exact hpn) w)
  have CK := Lib.hid (fun w => refKey_c key w)
  rw [hk] at CK
  have CF := Lib.hid (fun w => digits_c n (by omega) (by omega) w)
  have CM := Lib.hid (fun w => digits_c (n % 1025) (by omega) (by omega) w)
  have CX := Lib.hid fixed_any
  have wf : IntKind.i64.wrap n = n := IntWalk.i64_in _ ⟨by omega, by omega⟩
  have wt : Int.tmod n 1025 = n % 1025 := Int.tmod_eq_emod_of_nonneg hn.1
  have wk : Int.tmod kind 3 = 2 := by rw [Int.tmod_eq_emod_of_nonneg hkd.1]; exact h3
  have wk2 : kind % 3 = 2 := h3
  clear hk h3 hp hpn hw hwn e8 z
  go_enter Tryd.func7, Tryd.ntmps7
  go_wp2_with (first
    | (go_at_call 12; (with_reducible refine (CK.out _).mono ?_); rintro e w' ⟨rfl, ⟨nd, rfl⟩⟩)
    | (go_at_call 13; (with_reducible refine (CF.out _).mono ?_); rintro e w1 ⟨rfl, hb1⟩)
    | (go_at_call 13; (with_reducible refine (CM.out _).mono ?_); rintro e w2 ⟨rfl, hb2⟩)
    | (go_at_call 9; (with_reducible refine (CP.out _).mono ?_); rintro e w3 ⟨A, c, rfl, hc, hC, hb3⟩)
    | (go_at_call 9; (with_reducible refine (CN.out _).mono ?_); rintro e w4 ⟨B, d, rfl, hd, hD, hb4⟩; have z4 := hb4.size; (simp at z4); have y4 : w3.heap.size < w4.heap.size := (by omega); have k4 := bcell2 hb4)
    | (go_at_call 8; (with_reducible refine (CX.out _).mono ?_); rintro e w5 ⟨rfl, hb5⟩; have z5 := hb5.size; (simp at z5); have y5 : w4.heap.size < w5.heap.size := (by omega); have y6 : w3.heap.size < w5.heap.size := (by omega); have k5 := bcell2 hb5)
    | (go_at_call 11; (refine (same_two A B c d key 2 0 0 _ (Kd.C_below hC.out (by repeat (first | (with_reducible first | exact Below.refl _ _ | apply below_alloc | apply pw_below_drewN | apply below_drew1) | refine below_step ?_ hb5 | refine below_step ?_ hb4 | refine below_set ?_ (by omega)))) hc (Kd.C_below hD.out (by repeat (first | (with_reducible first | exact Below.refl _ _ | apply below_alloc | apply pw_below_drewN | apply below_drew1) | refine below_step ?_ hb5 | refine below_set ?_ (by omega)))) hd).mono ?_; rintro e w6 ⟨rfl, hb6⟩; have z6 := hb6.size; have y7 : w3.heap.size < w6.heap.size := (by omega); have k6 := bcell2 hb6)))
  go_ret
  refine ⟨rfl, ?_⟩
  repeat (first | (with_reducible first | exact Below.refl _ _ | apply below_alloc | apply pw_below_drewN | apply below_drew1) | refine below_step ?_ hb1 | refine below_step ?_ hb2 | refine below_step ?_ hb3 | refine below_step ?_ hb4 | refine below_step ?_ hb5 | refine below_step ?_ hb6 | refine below_set ?_ (by omega))
theorem not_key (key : ByteArray) (kind n : Int) (w : World) (hk : keyP key = false) : Calls Tryd.prog 7 #[.string key, .int .u8 kind, .int .u16 n] w fun e w' => e = .returned (.bool true) ∧ Below w.heap.size w w' := by
  have CK := Lib.hid (fun w => refKey_c key w)
  rw [hk] at CK
  have CX := Lib.hid fixed_any
  clear hk
  go_enter Tryd.func7, Tryd.ntmps7
  go_wp2_with (first
    | (go_at_call 12; (with_reducible refine (CK.out _).mono ?_); rintro e w' ⟨rfl, ⟨nd, rfl⟩⟩)
    | (go_at_call 8; (with_reducible refine (CX.out _).mono ?_); rintro e w5 ⟨rfl, hb5⟩))
  go_ret
  exact ⟨rfl, below_step (by apply pw_below_drewN; exact Below.refl _ _) hb5⟩
theorem walk (key : ByteArray) (kind n : Int) (w : World) (hkd : 0 ≤ kind ∧ kind ≤ 255) (hn : 0 ≤ n ∧ n ≤ 65535) :
    Calls Tryd.prog 7 #[.string key, .int .u8 kind, .int .u16 n] w fun e w' => e = .returned (.bool true) ∧ Below w.heap.size w w' := by
  cases hk : keyP key with
  | false => exact not_key key kind n w hk
  | true =>
    have h : kind % 3 = 0 ∨ kind % 3 = 1 ∨ kind % 3 = 2 := by omega
    rcases h with h | h | h
    · exact way0 key kind n w hk hkd h hn
    · exact way1 key kind n w hk hkd h hn
    · exact way2 key kind n w hk hkd h hn
end Go.Proofs.YtpfggidfcbgaiaaDoor.CmdLNoreply

/- What the document reads in bytes: the printed Decode's plain law, and its contract (own text over the kit's printed texts). -/
import Derived.Test.YtkddaedjgbakkaaFrameDec
namespace Go.Proofs.Ytkddaedjgbakkaa.Frame
open Go.RowKit Go.Proofs.Ytkddaedjgbakkaa.Mem Go.Proofs.Ytkddaedjgbakkaa.Sum Go.Proofs.Ytkddaedjgbakkaa.PFrameDecodes
open Go.Proofs.YtkddaedjgbakkaaW.PrintWords (bt rd)
set_option linter.unusedVariables false
set_option linter.unusedSimpArgs false
def decT (r : Nat × Nat × Nat × ByteArray × Int) : Int × Int × Int × ByteArray × Int := ((r.1 : Int), (r.2.1 : Int), (r.2.2.1 : Int), r.2.2.2.1, r.2.2.2.2)
theorem wb (x : Int) (b : Nat) (h0 : 0 ≤ x) (h1 : x < 1099511627776) (hb : b < 256) : wrap64 (wrap64 (x * 256) + wrap64 (b : Int)) = x * 256 + b := by
  rw [w64 (x * 256) (by omega) (by omega), w64 (b : Int) (by omega) (by omega), w64 (x * 256 + (b : Int)) (by omega) (by omega)]
theorem dec_step (k : Nat) (s : ByteArray) (x y : Int) (h1 : y < 8) (h2 : 0 ≤ y) (h3 : y < (s.size : Int)) : tattlerref04_Decode.l0 (k + 1) s x y = tattlerref04_Decode.l0 k s (wrap64 (wrap64 (x * 256) + wrap64 (bt s y))) (wrap64 (y + 1)) := by
  rw [tattlerref04_Decode.l0, if_pos h1, if_pos h2, if_pos h3]
theorem dec_l (s : ByteArray) (h12 : 12 ≤ s.size) (hs : s.size ≤ 900000) (h0 : by' s 0 = 1) (hm : mayF (by' s 1) (by' s 2) (by' s 3) = true) (m : Nat) (hk : s.size + 50 ≤ m) : tattlerref04_Decode.l0 (m + 5) s 0 4 = some (decT (decR s)) := by
  have b4' := by_lt s 4
  have b5' := by_lt s 5
  have b6' := by_lt s 6
  have b7' := by_lt s 7
  have v1 : wrap64 (wrap64 (0 * 256) + wrap64 (bt s 4)) = ((by' s 4 : Nat) : Int) := by
    rw [show bt s 4 = _ from bt_by s 4, wb 0 (by' s 4) (by omega) (by omega) b4']; omega
  have v2 : wrap64 (wrap64 (((by' s 4 : Nat) : Int) * 256) + wrap64 (bt s 5)) = ((by' s 4 * 256 + by' s 5 : Nat) : Int) := by
    rw [show bt s 5 = _ from bt_by s 5, wb _ (by' s 5) (by omega) (by omega) b5']; omega
  have v3 : wrap64 (wrap64 (((by' s 4 * 256 + by' s 5 : Nat) : Int) * 256) + wrap64 (bt s 6)) = (((by' s 4 * 256 + by' s 5) * 256 + by' s 6 : Nat) : Int) := by
    rw [show bt s 6 = _ from bt_by s 6, wb _ (by' s 6) (by omega) (by omega) b6']; omega
  have v4 : wrap64 (wrap64 ((((by' s 4 * 256 + by' s 5) * 256 + by' s 6 : Nat) : Int) * 256) + wrap64 (bt s 7)) = ((num4 s 4 : Nat) : Int) := by
    rw [show num4 s 4 = ((by' s 4 * 256 + by' s 5) * 256 + by' s 6) * 256 + by' s 7 from num4_row s 4, show bt s 7 = _ from bt_by s 7, wb _ (by' s 7) (by omega) (by omega) b7']; omega
  have i1 : wrap64 (4 + 1) = 5 := by rw [w64 _ (by decide) (by decide)]; rfl
  have i2 : wrap64 (5 + 1) = 6 := by rw [w64 _ (by decide) (by decide)]; rfl
  have i3 : wrap64 (6 + 1) = 7 := by rw [w64 _ (by decide) (by decide)]; rfl
  have i4 : wrap64 (7 + 1) = 8 := by rw [w64 _ (by decide) (by decide)]; rfl
  rw [show m + 5 = (m + 4) + 1 from rfl, dec_step _ s 0 4 (by decide) (by decide) (by omega), v1, i1, show m + 4 = (m + 3) + 1 from rfl, dec_step _ s _ 5 (by decide) (by decide) (by omega), v2, i2, show m + 3 = (m + 2) + 1 from rfl, dec_step _ s _ 6 (by decide) (by decide) (by omega), v3, i3, show m + 2 = (m + 1) + 1 from rfl, dec_step _ s _ 7 (by decide) (by decide) (by omega), v4, i4]
  clear v1 v2 v3 v4 i1 i2 i3 i4
  rw [tattlerref04_Decode.l0, if_neg (by decide)]
  have hn := num4_lt s 4
  have u12 : wrap64 (12 + ((num4 s 4 : Nat) : Int)) = ((12 + num4 s 4 : Nat) : Int) := by rw [w64 _ (by omega) (by omega)]; omega
  have u8 : wrap64 (8 + ((num4 s 4 : Nat) : Int)) = ((8 + num4 s 4 : Nat) : Int) := by rw [w64 _ (by omega) (by omega)]; omega
  unfold decR
  rw [if_neg (show ¬ s.size < 12 by omega), if_neg (show ¬ ¬ by' s 0 = 1 by omega), if_neg (show ¬ mayF (by' s 1) (by' s 2) (by' s 3) = false by rw [hm]; simp), u12, u8]
  by_cases h4 : 1048576 < num4 s 4
  · rw [if_pos (by omega), if_pos h4]; rfl
  rw [if_neg (by omega), if_neg h4]
  by_cases h5 : s.size < 12 + num4 s 4
  · rw [if_pos (by omega), if_pos h5]; rfl
  rw [if_neg (by omega), if_neg h5]
  by_cases h6 : 12 + num4 s 4 < s.size
  · rw [if_pos (by omega), if_pos h6]; rfl
  rw [if_neg (by omega), if_neg h6, if_pos (by omega), if_pos (by omega), if_pos (by omega), if_pos (by omega), if_pos (by omega)]
  rw [Int.toNat_natCast, show 8 + num4 s 4 = s.size - 4 by omega, show bt s 1 = _ from bt_by s 1, show bt s 2 = _ from bt_by s 2, show bt s 3 = _ from bt_by s 3]
  have zb : (s.extract 8 (s.size - 4)).size = s.size - 12 := by rw [size_sub _ _ _ (by omega)]; omega
  rw [enc_f (by' s 1) (by' s 2) (by' s 3) (s.extract 8 (s.size - 4)) m (by omega) (by_lt _ _) (by_lt _ _) (by_lt _ _), Option.bind_some]
  have es : encS (by' s 1) (by' s 2) (by' s 3) (s.extract 8 (s.size - 4)) = encB (by' s 1) (by' s 2) (by' s 3) (s.extract 8 (s.size - 4)) := by
    unfold encS; rw [if_neg (by omega), if_neg (by rw [hm]; simp)]
  have hq := enc_of (s := s) h12 h0 (by omega)
  by_cases h7 : more 0 (s.extract 0 (s.size - 4)) = num4 s (s.size - 4)
  · rw [if_pos (show (encS (by' s 1) (by' s 2) (by' s 3) (s.extract 8 (s.size - 4)), encE (by' s 1) (by' s 2) (by' s 3) (s.extract 8 (s.size - 4))).1.toList = s.toList from by show (encS _ _ _ _).toList = _; rw [es, hq.2 h7]), if_neg (fun h => h h7)]; rfl
  · rw [if_neg (show ¬ ((encS (by' s 1) (by' s 2) (by' s 3) (s.extract 8 (s.size - 4)), encE (by' s 1) (by' s 2) (by' s 3) (s.extract 8 (s.size - 4))).1.toList = s.toList) from fun e => h7 (hq.1 (by rw [← es]; exact ByteArray.ext (Array.toList_inj.1 (by rw [← Lib.toList_data, ← Lib.toList_data]; exact e))))), if_pos h7]; rfl
theorem dec_f (s : ByteArray) (hs : s.size ≤ 900000) (m : Nat) (hk : s.size + 60 ≤ m) : tattlerref04_Decode.f m s = some (decT (decR s)) := by
  unfold tattlerref04_Decode.f
  by_cases h1 : s.size < 12
  · rw [if_pos (by omega)]
    unfold decR; rw [if_pos h1]; rfl
  rw [if_neg (by omega), if_pos (by omega), show bt s 0 = _ from bt_by s 0, show bt s 1 = _ from bt_by s 1, show bt s 2 = _ from bt_by s 2, show bt s 3 = _ from bt_by s 3]
  obtain ⟨m, rfl⟩ : ∃ j, m = j + 6 := ⟨m - 6, by omega⟩
  have hno : tattlerref04_Decode.j0 (m + 6) s true = some (0, 0, 0, ⟨#[]⟩, 3) := by rw [tattlerref04_Decode.j0, if_pos rfl]
  by_cases h0 : by' s 0 = 1
  · rw [if_pos (by omega), if_pos (by omega)]
    have hb : mayF (by' s 1) (by' s 2) (by' s 3) = false → some (decT (decR s)) = some ((0 : Int), (0 : Int), (0 : Int), (⟨#[]⟩ : ByteArray), (3 : Int)) := fun h => by
      unfold decR; rw [if_neg h1, if_neg (by omega), if_pos h]; rfl
    by_cases g1 : by' s 1 = 0
    · rw [if_pos (by omega), hno, hb (decide_eq_false (by omega))]
    rw [if_neg (by omega)]
    by_cases g2 : by' s 1 > 14
    · rw [if_pos (by omega), hno, hb (decide_eq_false (by omega))]
    rw [if_neg (by omega), if_pos (by omega)]
    by_cases g3 : by' s 2 > 63
    · rw [if_pos (by omega), hno, hb (decide_eq_false (by omega))]
    rw [if_neg (by omega), if_pos (by omega)]
    by_cases g4 : by' s 3 > 63
    · rw [decide_eq_true (show ((by' s 3 : Nat) : Int) > 63 by omega), hno, hb (decide_eq_false (by omega))]
    rw [decide_eq_false (show ¬ ((by' s 3 : Nat) : Int) > 63 by omega), tattlerref04_Decode.j0, if_neg (by simp)]
    exact dec_l s (by omega) hs h0 (decide_eq_true (by omega)) m (by omega)
  · rw [if_neg (by omega), hno]
    unfold decR; rw [if_neg h1, if_pos (by omega)]; rfl
theorem refDec_any (s : ByteArray) (w : World) (hs : s.size ≤ 900000) :
    Calls Try.prog 11 #[.string s] w fun e w' => e = .returned (decV (decR s)) ∧ Below w.heap.size w w' :=
  tattlerref04_Decode.calls (s.size + 60) s _ _ _ _ _ w (dec_f s hs _ (Nat.le_refl _))
end Go.Proofs.Ytkddaedjgbakkaa.Frame

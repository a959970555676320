/- The chapter's examples of frames: the walk (own text; printed by wip/tools/gen_framelaws.py, a program of this session). -/
import Derived.Test.YtkddaedjgbakkaaFrameRefD
namespace Go.Proofs.Ytkddaedjgbakkaa.Frame
open Go.Proofs.Ytkddaedjgbakkaa Go.RowKit Go.Proofs.Ytkddaedjgbakkaa.Mem Go.Proofs.Ytkddaedjgbakkaa.Sum
set_option linter.unusedVariables false
set_option linter.unusedSimpArgs false
theorem penc (c tb k f t : Nat) (b : ByteArray) (w : World) (hc : Cod w c tb) (hk : k < 256) (hf : f < 256) (ht : t < 256) (hb : b.size ≤ 999000) :
    Calls Try.prog 8 #[.pointer (some ⟨c, 0, none⟩), .agg #[.int .u8 (k : Int), .int .u8 (f : Int), .int .u8 (t : Int), .string b]] w fun e w' => e = .returned (.tuple #[.string (encS k f t b), .int .i64 (encE k f t b)]) ∧ IsTab w' tb ∧ Chg (fun x => x = tb) w w' := by
  cases hm : mayF k f t
  · exact enc_no c tb k f t b w hc hk hf ht hb hm
  · exact enc_yes c tb k f t b w hc hk hf ht hb hm
theorem preEx : preB 5 1 2 ⟨#[97, 98]⟩ = ⟨#[1, 5, 1, 2, 0, 0, 0, 2, 97, 98]⟩ := by kernel_rfl
theorem encEx : ∃ S : ByteArray, encS 5 1 2 ⟨#[97, 98]⟩ = S ∧ encE 5 1 2 ⟨#[97, 98]⟩ = 0 ∧ S.size = 14 ∧ S.extract 0 10 = ⟨#[1, 5, 1, 2, 0, 0, 0, 2, 97, 98]⟩ ∧ decR S = (5, 1, 2, ⟨#[97, 98]⟩, 0) := by
  have z : (⟨#[97, 98]⟩ : ByteArray).size = 2 := rfl
  have hm : mayF 5 1 2 = true := by decide
  have es : encS 5 1 2 ⟨#[97, 98]⟩ = encB 5 1 2 ⟨#[97, 98]⟩ := by unfold encS; rw [if_neg (by omega), if_neg (by rw [hm]; simp)]
  have ee : encE 5 1 2 ⟨#[97, 98]⟩ = 0 := by unfold encE; rw [if_neg (by omega), if_neg (by rw [hm]; simp)]
  have hz := encB_size 5 1 2 ⟨#[97, 98]⟩
  refine ⟨_, es, ee, by rw [hz, z], ?_, dec_enc 5 1 2 _ hm (by omega)⟩
  rw [← preEx]
  refine ext_by (by rw [size_sub _ _ _ (by omega), preB_size, z]) (fun i hi => ?_)
  rw [size_sub _ _ _ (by omega)] at hi
  rw [by_sub _ 0 10 i (by omega) (by omega), Nat.zero_add, by_enc_pre (by omega)]
theorem decEx : decR ⟨#[49, 50, 51, 52, 53, 54, 55, 56, 57, 48, 49]⟩ = (0, 0, 0, ⟨#[]⟩, 2) := by
  unfold decR
  exact if_pos (by decide)
theorem fixed_any (w : World) : Calls Try.prog 6 #[] w fun e w' => e = .returned (.bool true) ∧ Below w.heap.size w w' := by
  obtain ⟨S, es, ee, hz, hx, hd⟩ := encEx
  have h1 : ∀ (c tb : Nat) (W : World) (h : Cod W c tb), Calls Try.prog 8 #[.pointer (some ⟨c, 0, none⟩), .agg #[.int .u8 5, .int .u8 1, .int .u8 2, .string ⟨#[97, 98]⟩]] W fun e w' => e = .returned (.tuple #[.string S, .int .i64 0]) ∧ IsTab w' tb ∧ Chg (fun x => x = tb) W w' := fun c tb W h => by
    have := penc c tb 5 1 2 ⟨#[97, 98]⟩ W h (by decide) (by decide) (by decide) (by decide)
    rw [es, ee] at this
    exact this
  have h2 : ∀ (c tb : Nat) (W : World) (h : Cod W c tb), Calls Try.prog 10 #[.pointer (some ⟨c, 0, none⟩), .string S] W fun e w' => e = .returned (.tuple #[.agg #[.int .u8 5, .int .u8 1, .int .u8 2, .string ⟨#[97, 98]⟩], .int .i64 0]) ∧ IsTab w' tb ∧ Chg (fun x => x = tb) W w' := fun c tb W h => by
    have := pdec c tb S W h (by omega)
    rw [hd] at this
    exact this
  have h3 : ∀ (c tb : Nat) (W : World) (h : Cod W c tb), Calls Try.prog 10 #[.pointer (some ⟨c, 0, none⟩), .string ⟨#[49, 50, 51, 52, 53, 54, 55, 56, 57, 48, 49]⟩] W fun e w' => e = .returned (.tuple #[.agg #[.int .u8 0, .int .u8 0, .int .u8 0, .string ⟨#[]⟩], .int .i64 2]) ∧ IsTab w' tb ∧ Chg (fun x => x = tb) W w' := fun c tb W h => by
    have := pdec c tb ⟨#[49, 50, 51, 52, 53, 54, 55, 56, 57, 48, 49]⟩ W h (by decide)
    rw [decEx] at this
    exact this
  have H1 := Lib.hid h1
  have H2 := Lib.hid h2
  have H3 := Lib.hid h3
  have hsl : ∀ W : World, (Instr.slice 9 (.string S) none (some (.int .i64 10)) none).run Try.prog W = .ok (.string ⟨#[1, 5, 1, 2, 0, 0, 0, 2, 97, 98]⟩) W := fun W => by
    rw [← hx]
    go_simp
  clear h1 h2 h3 es ee hd hx
  go_enter Try.func6, Try.ntmps6
  go_wp2_with (fail)
  refine (fnew _).mono ?_
  rintro e w1 ⟨c, tb, rfl, hc, g1, g2, g3, g4, b1⟩
  have HC := Lib.hid hc
  have HB := Lib.hid b1
  clear hc b1
  go_wp2_with (fail)
  refine (H1.out _ _ _ HC.out).mono ?_
  rintro e w2 ⟨rfl, t2, k2⟩
  replace HC := Lib.hid (cod_chg HC.out t2 k2)
  replace HB := Lib.hid (below_chg HB.out k2 (fun i h => by omega))
  clear t2 k2
  go_wp2_with (fail)
  refine (H2.out _ _ _ HC.out).mono ?_
  rintro e w3 ⟨rfl, t2, k2⟩
  replace HC := Lib.hid (cod_chg HC.out t2 k2)
  replace HB := Lib.hid (below_chg HB.out k2 (fun i h => by omega))
  clear t2 k2
  go_wp2_with (fail)
  have HF := Lib.hid (at_new w3 #[.int .u8 5, .int .u8 1, .int .u8 2, .string ⟨#[97, 98]⟩] 23)
  have gt : tb < w3.heap.size := isTab_lt HC.out.t
  replace HC := Lib.hid (cod_al (o := .cells #[.int .u8 5, .int .u8 1, .int .u8 2, .string ⟨#[97, 98]⟩] 23) HC.out)
  replace HB := Lib.hid (below_al (o := .cells #[.int .u8 5, .int .u8 1, .int .u8 2, .string ⟨#[97, 98]⟩] 23) HB.out)
  refine (H3.out _ _ _ HC.out).mono ?_
  rintro e w4 ⟨rfl, t2, k2⟩
  replace HF := Lib.hid (at_chg HF.out k2 (by omega))
  replace HC := Lib.hid (cod_chg HC.out t2 k2)
  replace HB := Lib.hid (below_chg HB.out k2 (fun i h => by omega))
  have gs : w3.heap.size < w4.heap.size := At.lt HF.out
  clear t2 k2
  obtain ⟨x0, x1, x2, x3, -⟩ := at4 HF.out
  go_wp2_with (fail)
  go_ret
  exact ⟨rfl, by repeat (first | (with_reducible exact HB.out) | (with_reducible apply below_al))⟩
end Go.Proofs.Ytkddaedjgbakkaa.Frame

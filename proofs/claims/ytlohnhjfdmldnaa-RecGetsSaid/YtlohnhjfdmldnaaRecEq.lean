/- When two records are equal: what the program's comparison of structs answers (own text, after the kit's printed words). -/
import Derived.Test.YtlohnhjfdmldnaaRecPlain
import Derived.Test.YtlohnhjfdmldnaaWEqStruct
import Derived.Test.YtlohnhjfdmldnaaWLast
import Derived.Test.YtlohnhjfdmldnaaWMore
namespace Go.Proofs.Ytlohnhjfdmldnaa.Rec
open Go.RowKit Go.Proofs.YtlohnhjfdmldnaaW.PrintWords Go.Proofs.YtlohnhjfdmldnaaW.PrintLast Go.Proofs.YtlohnhjfdmldnaaW.PrintMore
set_option linter.unusedVariables false
set_option linter.unusedSimpArgs false
theorem eqStamp (d : Nat) (w : World) (x0 y0 : Int) (x1 y1 : Int) (x2 y2 : Int) :
    (Op.equalIn (d + 2) 25 (.agg #[.int .u64 x0, .int .u32 x1, .int .u8 x2]) (.agg #[.int .u64 y0, .int .u32 y1, .int .u8 y2])).run Try.prog w = .ok (x0 == y0 && (x1 == y1 && (x2 == y2))) w := by
  refine eqA_of Try.underlying25 (by kernel_rfl) ?_
  refine eqf_cons (by rfl) (by first | (go_simp; done) | (go_simp; rfl)) (by first | (go_simp; done) | (go_simp; rfl)) (by go_simp) ?_
  refine eqf_cons (by rfl) (by first | (go_simp; done) | (go_simp; rfl)) (by first | (go_simp; done) | (go_simp; rfl)) (by go_simp) ?_
  exact eqf_last (by rfl) (by first | (go_simp; done) | (go_simp; rfl)) (by first | (go_simp; done) | (go_simp; rfl)) (by go_simp)
theorem eqRec (d : Nat) (w : World) (ak ck : ByteArray) (ap al an ad af ax : Int) (ab : ByteArray) (cp cl cn cd cf cx : Int) (cb : ByteArray) :
    (Op.equalIn (d + 3) 27 (.agg #[.string ak, .int .u64 ap, .int .u32 al, .int .u8 an, .int .u8 ad, .int .u32 af, .int .u64 ax, .string ab]) (.agg #[.string ck, .int .u64 cp, .int .u32 cl, .int .u8 cn, .int .u8 cd, .int .u32 cf, .int .u64 cx, .string cb])).run Try.prog w = .ok (ak.toList == ck.toList && ((ap == cp && (al == cl && (an == cn))) && (ad == cd && (af == cf && (ax == cx && (ab.toList == cb.toList)))))) w := by
  refine eqA_of Try.underlying27 (by kernel_rfl) ?_
  refine eqf_cons (by rfl) (by first | (go_simp; done) | (go_simp; rfl)) (by first | (go_simp; done) | (go_simp; rfl)) (by go_simp) ?_
  refine eqf_cons (by rfl) (by first | (go_simp; done) | (go_simp; rfl)) (by first | (go_simp; done) | (go_simp; rfl)) (eqStamp (d + 0) w _ _ _ _ _ _) ?_
  refine eqf_cons (by rfl) (by first | (go_simp; done) | (go_simp; rfl)) (by first | (go_simp; done) | (go_simp; rfl)) (by go_simp) ?_
  refine eqf_cons (by rfl) (by first | (go_simp; done) | (go_simp; rfl)) (by first | (go_simp; done) | (go_simp; rfl)) (by go_simp) ?_
  refine eqf_cons (by rfl) (by first | (go_simp; done) | (go_simp; rfl)) (by first | (go_simp; done) | (go_simp; rfl)) (by go_simp) ?_
  exact eqf_last (by rfl) (by first | (go_simp; done) | (go_simp; rfl)) (by first | (go_simp; done) | (go_simp; rfl)) (by go_simp)
theorem toList_beq (a b : ByteArray) : (a.toList == b.toList) = decide (a = b) := by
  by_cases h : a = b
  · rw [h, decide_eq_true rfl]; simp
  · rw [decide_eq_false h]
    exact beq_eq_false_iff_ne.2 (fun e => h (ByteArray.ext (Array.toList_inj.1 (by rw [← Lib.toList_data, ← Lib.toList_data]; exact e))))
/-- Records of one key are equal just where neither stands ahead. -/
theorem eqRec_cmp (w : World) (ak : ByteArray) (ap al an ad af ax : Int) (ab : ByteArray) (cp cl cn cd cf cx : Int) (cb : ByteArray) :
    (Op.equalIn 10000 27 (.agg #[.string ak, .int .u64 ap, .int .u32 al, .int .u8 an, .int .u8 ad, .int .u32 af, .int .u64 ax, .string ab]) (.agg #[.string ak, .int .u64 cp, .int .u32 cl, .int .u8 cn, .int .u8 cd, .int .u32 cf, .int .u64 cx, .string cb])).run Try.prog w = .ok (cmpR ap al an ad af ax ab cp cl cn cd cf cx cb == 0) w := by
  have h := eqRec 9997 w ak ak ap al an ad af ax ab cp cl cn cd cf cx cb
  refine h.trans ?_
  congr 1
  have z : cmpR ap al an ad af ax ab cp cl cn cd cf cx cb = 0 ↔ _ := cmp2_zero (a := ⟨ap, al, an, ad, af, ax, ab⟩) (c := ⟨cp, cl, cn, cd, cf, cx, cb⟩)
  rw [toList_beq, toList_beq, decide_eq_true rfl, Bool.true_and]
  rw [Bool.eq_iff_iff]
  simp only [Bool.and_eq_true, beq_iff_eq, decide_eq_true_eq]
  rw [z]
  simp only [R.mk.injEq]
  constructor
  · rintro ⟨⟨h1, h2, h3⟩, h4, h5, h6, h7⟩; exact ⟨h1, h2, h3, h4, h5, h6, h7⟩
  · rintro ⟨h1, h2, h3, h4, h5, h6, h7⟩; exact ⟨⟨h1, h2, h3⟩, h4, h5, h6, h7⟩
end Go.Proofs.Ytlohnhjfdmldnaa.Rec

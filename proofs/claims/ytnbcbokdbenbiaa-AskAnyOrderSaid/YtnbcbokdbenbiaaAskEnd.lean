/- What the laws of requests end with (own text; written by wip/tools/gen_askonce.py). -/
import Derived.Test.YtnbcbokdbenbiaaAskCut
import Derived.Test.YtnbcbokdbenbiaaAskOverL
import Derived.Test.YtnbcbokdbenbiaaWEqStruct
namespace Go.Proofs.Ytnbcbokdbenbiaa.Ask
open Go.RowKit Go.Proofs.Ytnbcbokdbenbiaa.Mem Go.Lib Go.Proofs.YtnbcbokdbenbiaaW.PrintWords Go.Proofs.YtnbcbokdbenbiaaW.PrintLast Go.Proofs.YtnbcbokdbenbiaaW.PrintMore
set_option linter.unusedVariables false
set_option linter.unusedSimpArgs false
theorem eqStamp (d : Nat) (w : World) (x0 y0 : Int) (x1 y1 : Int) (x2 y2 : Int) :
    (Op.equalIn (d + 2) 30 (.agg #[.int .u64 x0, .int .u32 x1, .int .u8 x2]) (.agg #[.int .u64 y0, .int .u32 y1, .int .u8 y2])).run Try.prog w = .ok (x0 == y0 && (x1 == y1 && (x2 == y2))) w := by
  refine eqA_of Try.underlying30 (by kernel_rfl) ?_
  refine eqf_cons (by rfl) (by first | (go_simp; done) | (go_simp; rfl)) (by first | (go_simp; done) | (go_simp; rfl)) (by go_simp) ?_
  refine eqf_cons (by rfl) (by first | (go_simp; done) | (go_simp; rfl)) (by first | (go_simp; done) | (go_simp; rfl)) (by go_simp) ?_
  exact eqf_last (by rfl) (by first | (go_simp; done) | (go_simp; rfl)) (by first | (go_simp; done) | (go_simp; rfl)) (by go_simp)
theorem eqRec (d : Nat) (w : World) (ak ck : ByteArray) (ap al an ad af ax : Int) (ab : ByteArray) (cp cl cn cd cf cx : Int) (cb : ByteArray) :
    (Op.equalIn (d + 3) 32 (.agg #[.string ak, .int .u64 ap, .int .u32 al, .int .u8 an, .int .u8 ad, .int .u32 af, .int .u64 ax, .string ab]) (.agg #[.string ck, .int .u64 cp, .int .u32 cl, .int .u8 cn, .int .u8 cd, .int .u32 cf, .int .u64 cx, .string cb])).run Try.prog w = .ok (ak.toList == ck.toList && ((ap == cp && (al == cl && (an == cn))) && (ad == cd && (af == cf && (ax == cx && (ab.toList == cb.toList)))))) w := by
  refine eqA_of Try.underlying32 (by kernel_rfl) ?_
  refine eqf_cons (by rfl) (by first | (go_simp; done) | (go_simp; rfl)) (by first | (go_simp; done) | (go_simp; rfl)) (by go_simp) ?_
  refine eqf_cons (by rfl) (by first | (go_simp; done) | (go_simp; rfl)) (by first | (go_simp; done) | (go_simp; rfl)) (eqStamp (d + 0) w _ _ _ _ _ _) ?_
  refine eqf_cons (by rfl) (by first | (go_simp; done) | (go_simp; rfl)) (by first | (go_simp; done) | (go_simp; rfl)) (by go_simp) ?_
  refine eqf_cons (by rfl) (by first | (go_simp; done) | (go_simp; rfl)) (by first | (go_simp; done) | (go_simp; rfl)) (by go_simp) ?_
  refine eqf_cons (by rfl) (by first | (go_simp; done) | (go_simp; rfl)) (by first | (go_simp; done) | (go_simp; rfl)) (by go_simp) ?_
  exact eqf_last (by rfl) (by first | (go_simp; done) | (go_simp; rfl)) (by first | (go_simp; done) | (go_simp; rfl)) (by go_simp)
theorem eqSelf (w : World) (ak : ByteArray) (ap al an ad af ax : Int) (ab : ByteArray) :
    (Op.equalIn 10000 32 (.agg #[.string ak, .int .u64 ap, .int .u32 al, .int .u8 an, .int .u8 ad, .int .u32 af, .int .u64 ax, .string ab]) (.agg #[.string ak, .int .u64 ap, .int .u32 al, .int .u8 an, .int .u8 ad, .int .u32 af, .int .u64 ax, .string ab])).run Try.prog w = .ok true w := by
  refine (eqRec 9997 w ak ak ap al an ad af ax ab ap al an ad af ax ab).trans ?_
  congr 1
  simp
def sm (ops : List (Int × Rep)) (m : Int) : Bool := (first ops m).isSome
def inN (ns : List Int) (m : Int) : Bool := ns.contains m
theorem left_sm (ns : List Int) (ops : List (Int × Rep)) (m : Int) : left ns ops m = (inN ns m && !(sm ops m)) := by
  unfold left sm inN
  cases first ops m <;> simp
theorem sm_step (ops : List (Int × Rep)) (n : Int) (r : Rep) (m : Int) : sm (ops ++ [(n, r)]) m = if m = n then true else sm ops m := by
  unfold sm
  rw [first_snoc]
  cases h : first ops m with
  | some q => simp
  | none =>
    by_cases e : n = m
    · simp [e]
    · have e' : ¬ m = n := fun h => e h.symm
      simp [e, e']
theorem at11 {w : World} {b : Nat} {c0 c1 c2 c3 c4 c5 c6 c7 c8 c9 c10 : Value} {t : TypeId} (h : At w b #[c0, c1, c2, c3, c4, c5, c6, c7, c8, c9, c10] t) :
    w.cell? ⟨b, 0, none⟩ = some c0 ∧ w.cell? ⟨b, 1, none⟩ = some c1 ∧ w.cell? ⟨b, 2, none⟩ = some c2 ∧ w.cell? ⟨b, 3, none⟩ = some c3 ∧ w.cell? ⟨b, 4, none⟩ = some c4 ∧ w.cell? ⟨b, 5, none⟩ = some c5 ∧ w.cell? ⟨b, 6, none⟩ = some c6 ∧ w.cell? ⟨b, 7, none⟩ = some c7 ∧ w.cell? ⟨b, 8, none⟩ = some c8 ∧ w.cell? ⟨b, 9, none⟩ = some c9 ∧ w.cell? ⟨b, 10, none⟩ = some c10 :=
  ⟨h.cell 0, h.cell 1, h.cell 2, h.cell 3, h.cell 4, h.cell 5, h.cell 6, h.cell 7, h.cell 8, h.cell 9, h.cell 10⟩
theorem sm_nil (m : Int) : sm [] m = false := rfl
end Go.Proofs.Ytnbcbokdbenbiaa.Ask

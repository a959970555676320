/- A region that draws its order, one operation after the other, in an order of the prover's: the operation is found by a walk over the list, so that it stands written out (own text, over the guide's laws). -/
import Derived.Test.YtnbcbokdbenbiaaMem
import Derived.Deep.RegionHeld3
namespace Go.Proofs.Ytnbcbokdbenbiaa.Draw
open Go.RowKit
variable {P : Program} {ops : Array Oper} {Q : Exit → Act → World → Prop} {md : Region.Mode} {S : World → Prop}
theorem nth {i : Nat} {o : Oper} {rest : List Oper} (h : ops.toList.drop i = o :: rest) : ops[i]? = some o := by
  have := congrArg (fun l => l[0]?) h
  simpa using this
/-- Number i is wanted, and yields v wherever S holds. -/
theorem take_w {i : Nat} {o : Oper} {rest : List Oper} {v : Value} {fuel : Nat} {listed : Array Bool} {a : Act} {w : World} (h : ops.toList.drop i = o :: rest)
    (hs : Region.noSelect ops = true) (hf : Region.free md ops listed i = true) (hr : (Region.ready md ops listed).contains i = true)
    (hQ : ∀ c a w, Q (.panic c) (a.put o.dst v) w → Q (.panic c) a w) (hw : Region.wanted o (yielded ops a.tmps) = true) (hy : ∀ w, S w → (execOp a.eval o).run P w = .ok (.value v) w) (hS : S w)
    (hk : wpAnyH P md ops Q S fuel (listed.setIfInBounds i true) (a.put o.dst v) w) : wpAnyH P md ops Q S (fuel + 1) listed a w :=
  wpAnyH_take (nth h) hs hf hr hQ (Or.inl ⟨hw, hy⟩) hS hk
/-- Number i is not wanted. -/
theorem take_u {i : Nat} {o : Oper} {rest : List Oper} {fuel : Nat} {listed : Array Bool} {a : Act} {w : World} (h : ops.toList.drop i = o :: rest)
    (hs : Region.noSelect ops = true) (hf : Region.free md ops listed i = true) (hr : (Region.ready md ops listed).contains i = true)
    (hQ : ∀ c a w, Q (.panic c) (a.put o.dst undef) w → Q (.panic c) a w) (hw : Region.wanted o (yielded ops a.tmps) = false) (hS : S w)
    (hk : wpAnyH P md ops Q S fuel (listed.setIfInBounds i true) (a.put o.dst undef) w) : wpAnyH P md ops Q S (fuel + 1) listed a w :=
  wpAnyH_take (nth h) hs hf hr hQ (Or.inr ⟨hw, rfl⟩) hS hk
/-- Number i alone may come up, and is wanted. -/
theorem call_d {i : Nat} {o : Oper} {rest : List Oper} {fuel : Nat} {listed : Array Bool} {a : Act} {w : World} (h : ops.toList.drop i = o :: rest)
    (hr : Region.ready md ops listed = [i]) (hw : Region.wanted o (yielded ops a.tmps) = true)
    (hk : ∀ K : Act → World → Prop, Shut (∀ a w, S w → (S w → wpAnyH P md ops Q S fuel (listed.setIfInBounds i true) a w) → K a w) → Oper.wp P o a w K Q) : wpAnyH P md ops Q S (fuel + 1) listed a w :=
  wpAnyH_ready hr (by simp) (AllReadyH.cons (nth h) (fun K hK => by rw [if_pos hw]; exact hk K hK) (fun j hj => by simp at hj))
end Go.Proofs.Ytnbcbokdbenbiaa.Draw

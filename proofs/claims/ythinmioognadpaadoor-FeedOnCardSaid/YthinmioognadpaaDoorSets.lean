/- A struct stored whole: its cells laid one after the other (own text). -/
import Derived.Test.YthinmioognadpaaDoorMem
namespace Go.Proofs.YthinmioognadpaaDoor.Mem
open Go.RowKit
set_option linter.unusedVariables false
theorem at_set2_ne {w : World} {b b' : Nat} {v0 v1 : Value} {cs : Array Value} {t : TypeId} (h : At w b cs t) (hne : b ≠ b') : At ((w.setCell ⟨b', 0, none⟩ (v0)).setCell ⟨b', 1, none⟩ (v1)) b cs t :=
  at_set_ne (hne := hne) (at_set_ne (hne := hne) (h))
theorem at_set2 {w : World} {b : Nat} {v0 v1 u0 u1 : Value} {t : TypeId} (h : At w b #[u0, u1] t) : At ((w.setCell ⟨b, 0, none⟩ (v0)).setCell ⟨b, 1, none⟩ (v1)) b #[v0, v1] t := by
  have h0 : At (w.setCell ⟨b, 0, none⟩ v0) b #[v0, u1] t := at_set' h rfl
  have h1 : At ((w.setCell ⟨b, 0, none⟩ v0).setCell ⟨b, 1, none⟩ v1) b #[v0, v1] t := at_set' h0 rfl
  exact h1
theorem below_set2 {w W : World} {b : Nat} {v0 v1 : Value} (h : Below w.heap.size w W) (hb : w.heap.size ≤ b) : Below w.heap.size w ((W.setCell ⟨b, 0, none⟩ (v0)).setCell ⟨b, 1, none⟩ (v1)) :=
  below_new (below_new (h) hb) hb
theorem at_set3_ne {w : World} {b b' : Nat} {v0 v1 v2 : Value} {cs : Array Value} {t : TypeId} (h : At w b cs t) (hne : b ≠ b') : At (((w.setCell ⟨b', 0, none⟩ (v0)).setCell ⟨b', 1, none⟩ (v1)).setCell ⟨b', 2, none⟩ (v2)) b cs t :=
  at_set_ne (hne := hne) (at_set_ne (hne := hne) (at_set_ne (hne := hne) (h)))
theorem at_set3 {w : World} {b : Nat} {v0 v1 v2 u0 u1 u2 : Value} {t : TypeId} (h : At w b #[u0, u1, u2] t) : At (((w.setCell ⟨b, 0, none⟩ (v0)).setCell ⟨b, 1, none⟩ (v1)).setCell ⟨b, 2, none⟩ (v2)) b #[v0, v1, v2] t := by
  have h0 : At (w.setCell ⟨b, 0, none⟩ v0) b #[v0, u1, u2] t := at_set' h rfl
  have h1 : At ((w.setCell ⟨b, 0, none⟩ v0).setCell ⟨b, 1, none⟩ v1) b #[v0, v1, u2] t := at_set' h0 rfl
  have h2 : At (((w.setCell ⟨b, 0, none⟩ v0).setCell ⟨b, 1, none⟩ v1).setCell ⟨b, 2, none⟩ v2) b #[v0, v1, v2] t := at_set' h1 rfl
  exact h2
theorem below_set3 {w W : World} {b : Nat} {v0 v1 v2 : Value} (h : Below w.heap.size w W) (hb : w.heap.size ≤ b) : Below w.heap.size w (((W.setCell ⟨b, 0, none⟩ (v0)).setCell ⟨b, 1, none⟩ (v1)).setCell ⟨b, 2, none⟩ (v2)) :=
  below_new (below_new (below_new (h) hb) hb) hb
theorem at_set4_ne {w : World} {b b' : Nat} {v0 v1 v2 v3 : Value} {cs : Array Value} {t : TypeId} (h : At w b cs t) (hne : b ≠ b') : At ((((w.setCell ⟨b', 0, none⟩ (v0)).setCell ⟨b', 1, none⟩ (v1)).setCell ⟨b', 2, none⟩ (v2)).setCell ⟨b', 3, none⟩ (v3)) b cs t :=
  at_set_ne (hne := hne) (at_set_ne (hne := hne) (at_set_ne (hne := hne) (at_set_ne (hne := hne) (h))))
theorem at_set4 {w : World} {b : Nat} {v0 v1 v2 v3 u0 u1 u2 u3 : Value} {t : TypeId} (h : At w b #[u0, u1, u2, u3] t) : At ((((w.setCell ⟨b, 0, none⟩ (v0)).setCell ⟨b, 1, none⟩ (v1)).setCell ⟨b, 2, none⟩ (v2)).setCell ⟨b, 3, none⟩ (v3)) b #[v0, v1, v2, v3] t := by
  have h0 : At (w.setCell ⟨b, 0, none⟩ v0) b #[v0, u1, u2, u3] t := at_set' h rfl
  have h1 : At ((w.setCell ⟨b, 0, none⟩ v0).setCell ⟨b, 1, none⟩ v1) b #[v0, v1, u2, u3] t := at_set' h0 rfl
  have h2 : At (((w.setCell ⟨b, 0, none⟩ v0).setCell ⟨b, 1, none⟩ v1).setCell ⟨b, 2, none⟩ v2) b #[v0, v1, v2, u3] t := at_set' h1 rfl
  have h3 : At ((((w.setCell ⟨b, 0, none⟩ v0).setCell ⟨b, 1, none⟩ v1).setCell ⟨b, 2, none⟩ v2).setCell ⟨b, 3, none⟩ v3) b #[v0, v1, v2, v3] t := at_set' h2 rfl
  exact h3
theorem below_set4 {w W : World} {b : Nat} {v0 v1 v2 v3 : Value} (h : Below w.heap.size w W) (hb : w.heap.size ≤ b) : Below w.heap.size w ((((W.setCell ⟨b, 0, none⟩ (v0)).setCell ⟨b, 1, none⟩ (v1)).setCell ⟨b, 2, none⟩ (v2)).setCell ⟨b, 3, none⟩ (v3)) :=
  below_new (below_new (below_new (below_new (h) hb) hb) hb) hb
theorem at_set5_ne {w : World} {b b' : Nat} {v0 v1 v2 v3 v4 : Value} {cs : Array Value} {t : TypeId} (h : At w b cs t) (hne : b ≠ b') : At (((((w.setCell ⟨b', 0, none⟩ (v0)).setCell ⟨b', 1, none⟩ (v1)).setCell ⟨b', 2, none⟩ (v2)).setCell ⟨b', 3, none⟩ (v3)).setCell ⟨b', 4, none⟩ (v4)) b cs t :=
  at_set_ne (hne := hne) (at_set_ne (hne := hne) (at_set_ne (hne := hne) (at_set_ne (hne := hne) (at_set_ne (hne := hne) (h)))))
theorem at_set5 {w : World} {b : Nat} {v0 v1 v2 v3 v4 u0 u1 u2 u3 u4 : Value} {t : TypeId} (h : At w b #[u0, u1, u2, u3, u4] t) : At (((((w.setCell ⟨b, 0, none⟩ (v0)).setCell ⟨b, 1, none⟩ (v1)).setCell ⟨b, 2, none⟩ (v2)).setCell ⟨b, 3, none⟩ (v3)).setCell ⟨b, 4, none⟩ (v4)) b #[v0, v1, v2, v3, v4] t := by
  have h0 : At (w.setCell ⟨b, 0, none⟩ v0) b #[v0, u1, u2, u3, u4] t := at_set' h rfl
  have h1 : At ((w.setCell ⟨b, 0, none⟩ v0).setCell ⟨b, 1, none⟩ v1) b #[v0, v1, u2, u3, u4] t := at_set' h0 rfl
  have h2 : At (((w.setCell ⟨b, 0, none⟩ v0).setCell ⟨b, 1, none⟩ v1).setCell ⟨b, 2, none⟩ v2) b #[v0, v1, v2, u3, u4] t := at_set' h1 rfl
  have h3 : At ((((w.setCell ⟨b, 0, none⟩ v0).setCell ⟨b, 1, none⟩ v1).setCell ⟨b, 2, none⟩ v2).setCell ⟨b, 3, none⟩ v3) b #[v0, v1, v2, v3, u4] t := at_set' h2 rfl
  have h4 : At (((((w.setCell ⟨b, 0, none⟩ v0).setCell ⟨b, 1, none⟩ v1).setCell ⟨b, 2, none⟩ v2).setCell ⟨b, 3, none⟩ v3).setCell ⟨b, 4, none⟩ v4) b #[v0, v1, v2, v3, v4] t := at_set' h3 rfl
  exact h4
theorem below_set5 {w W : World} {b : Nat} {v0 v1 v2 v3 v4 : Value} (h : Below w.heap.size w W) (hb : w.heap.size ≤ b) : Below w.heap.size w (((((W.setCell ⟨b, 0, none⟩ (v0)).setCell ⟨b, 1, none⟩ (v1)).setCell ⟨b, 2, none⟩ (v2)).setCell ⟨b, 3, none⟩ (v3)).setCell ⟨b, 4, none⟩ (v4)) :=
  below_new (below_new (below_new (below_new (below_new (h) hb) hb) hb) hb) hb
theorem at_set6_ne {w : World} {b b' : Nat} {v0 v1 v2 v3 v4 v5 : Value} {cs : Array Value} {t : TypeId} (h : At w b cs t) (hne : b ≠ b') : At ((((((w.setCell ⟨b', 0, none⟩ (v0)).setCell ⟨b', 1, none⟩ (v1)).setCell ⟨b', 2, none⟩ (v2)).setCell ⟨b', 3, none⟩ (v3)).setCell ⟨b', 4, none⟩ (v4)).setCell ⟨b', 5, none⟩ (v5)) b cs t :=
  at_set_ne (hne := hne) (at_set_ne (hne := hne) (at_set_ne (hne := hne) (at_set_ne (hne := hne) (at_set_ne (hne := hne) (at_set_ne (hne := hne) (h))))))
theorem at_set6 {w : World} {b : Nat} {v0 v1 v2 v3 v4 v5 u0 u1 u2 u3 u4 u5 : Value} {t : TypeId} (h : At w b #[u0, u1, u2, u3, u4, u5] t) : At ((((((w.setCell ⟨b, 0, none⟩ (v0)).setCell ⟨b, 1, none⟩ (v1)).setCell ⟨b, 2, none⟩ (v2)).setCell ⟨b, 3, none⟩ (v3)).setCell ⟨b, 4, none⟩ (v4)).setCell ⟨b, 5, none⟩ (v5)) b #[v0, v1, v2, v3, v4, v5] t := by
  have h0 : At (w.setCell ⟨b, 0, none⟩ v0) b #[v0, u1, u2, u3, u4, u5] t := at_set' h rfl
  have h1 : At ((w.setCell ⟨b, 0, none⟩ v0).setCell ⟨b, 1, none⟩ v1) b #[v0, v1, u2, u3, u4, u5] t := at_set' h0 rfl
  have h2 : At (((w.setCell ⟨b, 0, none⟩ v0).setCell ⟨b, 1, none⟩ v1).setCell ⟨b, 2, none⟩ v2) b #[v0, v1, v2, u3, u4, u5] t := at_set' h1 rfl
  have h3 : At ((((w.setCell ⟨b, 0, none⟩ v0).setCell ⟨b, 1, none⟩ v1).setCell ⟨b, 2, none⟩ v2).setCell ⟨b, 3, none⟩ v3) b #[v0, v1, v2, v3, u4, u5] t := at_set' h2 rfl
  have h4 : At (((((w.setCell ⟨b, 0, none⟩ v0).setCell ⟨b, 1, none⟩ v1).setCell ⟨b, 2, none⟩ v2).setCell ⟨b, 3, none⟩ v3).setCell ⟨b, 4, none⟩ v4) b #[v0, v1, v2, v3, v4, u5] t := at_set' h3 rfl
  have h5 : At ((((((w.setCell ⟨b, 0, none⟩ v0).setCell ⟨b, 1, none⟩ v1).setCell ⟨b, 2, none⟩ v2).setCell ⟨b, 3, none⟩ v3).setCell ⟨b, 4, none⟩ v4).setCell ⟨b, 5, none⟩ v5) b #[v0, v1, v2, v3, v4, v5] t := at_set' h4 rfl
  exact h5
theorem below_set6 {w W : World} {b : Nat} {v0 v1 v2 v3 v4 v5 : Value} (h : Below w.heap.size w W) (hb : w.heap.size ≤ b) : Below w.heap.size w ((((((W.setCell ⟨b, 0, none⟩ (v0)).setCell ⟨b, 1, none⟩ (v1)).setCell ⟨b, 2, none⟩ (v2)).setCell ⟨b, 3, none⟩ (v3)).setCell ⟨b, 4, none⟩ (v4)).setCell ⟨b, 5, none⟩ (v5)) :=
  below_new (below_new (below_new (below_new (below_new (below_new (h) hb) hb) hb) hb) hb) hb
theorem at_set8_ne {w : World} {b b' : Nat} {v0 v1 v2 v3 v4 v5 v6 v7 : Value} {cs : Array Value} {t : TypeId} (h : At w b cs t) (hne : b ≠ b') : At ((((((((w.setCell ⟨b', 0, none⟩ (v0)).setCell ⟨b', 1, none⟩ (v1)).setCell ⟨b', 2, none⟩ (v2)).setCell ⟨b', 3, none⟩ (v3)).setCell ⟨b', 4, none⟩ (v4)).setCell ⟨b', 5, none⟩ (v5)).setCell ⟨b', 6, none⟩ (v6)).setCell ⟨b', 7, none⟩ (v7)) b cs t :=
  at_set_ne (hne := hne) (at_set_ne (hne := hne) (at_set_ne (hne := hne) (at_set_ne (hne := hne) (at_set_ne (hne := hne) (at_set_ne (hne := hne) (at_set_ne (hne := hne) (at_set_ne (hne := hne) (h))))))))
theorem at_set8 {w : World} {b : Nat} {v0 v1 v2 v3 v4 v5 v6 v7 u0 u1 u2 u3 u4 u5 u6 u7 : Value} {t : TypeId} (h : At w b #[u0, u1, u2, u3, u4, u5, u6, u7] t) : At ((((((((w.setCell ⟨b, 0, none⟩ (v0)).setCell ⟨b, 1, none⟩ (v1)).setCell ⟨b, 2, none⟩ (v2)).setCell ⟨b, 3, none⟩ (v3)).setCell ⟨b, 4, none⟩ (v4)).setCell ⟨b, 5, none⟩ (v5)).setCell ⟨b, 6, none⟩ (v6)).setCell ⟨b, 7, none⟩ (v7)) b #[v0, v1, v2, v3, v4, v5, v6, v7] t := by
  have h0 : At (w.setCell ⟨b, 0, none⟩ v0) b #[v0, u1, u2, u3, u4, u5, u6, u7] t := at_set' h rfl
  have h1 : At ((w.setCell ⟨b, 0, none⟩ v0).setCell ⟨b, 1, none⟩ v1) b #[v0, v1, u2, u3, u4, u5, u6, u7] t := at_set' h0 rfl
  have h2 : At (((w.setCell ⟨b, 0, none⟩ v0).setCell ⟨b, 1, none⟩ v1).setCell ⟨b, 2, none⟩ v2) b #[v0, v1, v2, u3, u4, u5, u6, u7] t := at_set' h1 rfl
  have h3 : At ((((w.setCell ⟨b, 0, none⟩ v0).setCell ⟨b, 1, none⟩ v1).setCell ⟨b, 2, none⟩ v2).setCell ⟨b, 3, none⟩ v3) b #[v0, v1, v2, v3, u4, u5, u6, u7] t := at_set' h2 rfl
  have h4 : At (((((w.setCell ⟨b, 0, none⟩ v0).setCell ⟨b, 1, none⟩ v1).setCell ⟨b, 2, none⟩ v2).setCell ⟨b, 3, none⟩ v3).setCell ⟨b, 4, none⟩ v4) b #[v0, v1, v2, v3, v4, u5, u6, u7] t := at_set' h3 rfl
  have h5 : At ((((((w.setCell ⟨b, 0, none⟩ v0).setCell ⟨b, 1, none⟩ v1).setCell ⟨b, 2, none⟩ v2).setCell ⟨b, 3, none⟩ v3).setCell ⟨b, 4, none⟩ v4).setCell ⟨b, 5, none⟩ v5) b #[v0, v1, v2, v3, v4, v5, u6, u7] t := at_set' h4 rfl
  have h6 : At (((((((w.setCell ⟨b, 0, none⟩ v0).setCell ⟨b, 1, none⟩ v1).setCell ⟨b, 2, none⟩ v2).setCell ⟨b, 3, none⟩ v3).setCell ⟨b, 4, none⟩ v4).setCell ⟨b, 5, none⟩ v5).setCell ⟨b, 6, none⟩ v6) b #[v0, v1, v2, v3, v4, v5, v6, u7] t := at_set' h5 rfl
  have h7 : At ((((((((w.setCell ⟨b, 0, none⟩ v0).setCell ⟨b, 1, none⟩ v1).setCell ⟨b, 2, none⟩ v2).setCell ⟨b, 3, none⟩ v3).setCell ⟨b, 4, none⟩ v4).setCell ⟨b, 5, none⟩ v5).setCell ⟨b, 6, none⟩ v6).setCell ⟨b, 7, none⟩ v7) b #[v0, v1, v2, v3, v4, v5, v6, v7] t := at_set' h6 rfl
  exact h7
theorem below_set8 {w W : World} {b : Nat} {v0 v1 v2 v3 v4 v5 v6 v7 : Value} (h : Below w.heap.size w W) (hb : w.heap.size ≤ b) : Below w.heap.size w ((((((((W.setCell ⟨b, 0, none⟩ (v0)).setCell ⟨b, 1, none⟩ (v1)).setCell ⟨b, 2, none⟩ (v2)).setCell ⟨b, 3, none⟩ (v3)).setCell ⟨b, 4, none⟩ (v4)).setCell ⟨b, 5, none⟩ (v5)).setCell ⟨b, 6, none⟩ (v6)).setCell ⟨b, 7, none⟩ (v7)) :=
  below_new (below_new (below_new (below_new (below_new (below_new (below_new (below_new (h) hb) hb) hb) hb) hb) hb) hb) hb

end Go.Proofs.YthinmioognadpaaDoor.Mem

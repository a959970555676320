/- A text's sum goes on with another one behind it: the plain law (own text). -/
import Derived.Test.YtkddaedjgbakkaaSumPlain
namespace Go.Proofs.Ytkddaedjgbakkaa.Sum
set_option linter.unusedVariables false
theorem by_left (a b : ByteArray) (k : Nat) (h : k < a.size) : by' (a ++ b) k = by' a k := by
  unfold by'
  rw [dif_pos h, dif_pos (by rw [ByteArray.size_append]; omega)]
  congr 1
  exact ByteArray.getElem_append_left h
theorem by_right (a b : ByteArray) (k : Nat) (h : k < b.size) : by' (a ++ b) (a.size + k) = by' b k := by
  unfold by'
  rw [dif_pos h, dif_pos (by rw [ByteArray.size_append]; omega)]
  congr 1
  rw [ByteArray.getElem_append_right (by omega)]
  congr 1
  omega
theorem go_left (a b : ByteArray) (x : Nat) : ∀ k, k ≤ a.size → go (a ++ b) x k = go a x k
  | 0, _ => rfl
  | k + 1, h => by unfold go; rw [go_left a b x k (by omega), by_left a b k (by omega)]
theorem go_right (a b : ByteArray) (x : Nat) : ∀ k, k ≤ b.size → go (a ++ b) x (a.size + k) = go b (go a x a.size) k
  | 0, _ => go_left a b x a.size (Nat.le_refl _)
  | k + 1, h => by
    rw [← Nat.add_assoc]
    unfold go
    rw [go_right a b x k (by omega), by_right a b k (by omega)]
theorem more_app (a b : ByteArray) (y : Nat) : more (more y a) b = more y (a ++ b) := by
  unfold more
  rw [ByteArray.size_append, go_right a b _ b.size (Nat.le_refl _), Nat.xor_assoc, Nat.xor_self, Nat.xor_zero]
end Go.Proofs.Ytkddaedjgbakkaa.Sum

/- say.Read reads back all that say.Items says; ref.Same, ref.May: the plain law (own text). -/
import Derived.Test.YtbgoedhpndflpaaDoorSayStep
import Derived.Test.YtbgoedhpndflpaaDoorSayQ8
namespace Go.Proofs.YtbgoedhpndflpaaDoor.Say
open Go.RowKit Go.Proofs.YtbgoedhpndflpaaDoorW.PrintWords Go.Proofs.YtbgoedhpndflpaaDoorW.PrintLast Go.Proofs.YtbgoedhpndflpaaDoorW.PrintMore Go.Proofs.YtbgoedhpndflpaaDoor.PSay
set_option linter.unusedVariables false
set_option linter.unusedSimpArgs false
theorem read_end (S : ByteArray) (p k : Nat) (acc : List S30) (R : List UInt8) (hS : S.size ≤ 2000000) (hp : p ≤ S.size) (hd : S.data.toList.drop p = [69, 78, 68, 13, 10] ++ R) (hk : 300 < k) :
    say_Read.l0 (k + 1) S (p : Int) acc = some (acc, ((p + 5 : Nat) : Int), 0) := by
  have hln := line_law S p k [69, 78, 68] R hS hp hd (by decide) (by decide) (by omega)
  have e : ((p + ([69, 78, 68] : List UInt8).length + 2 : Nat) : Int) = ((p + 5 : Nat) : Int) := rfl
  rw [e] at hln
  rw [say_Read.l0, hln, Option.bind_some]
  show (if (0 : Int) = 0 then (if (⟨#[69, 78, 68]⟩ : ByteArray).toList = ([69, 78, 68] : List UInt8) then some (acc, ((p + 5 : Nat) : Int), (0 : Int)) else _) else _) = _
  rw [if_pos rfl, if_pos (by rw [Lib.toList_data])]
theorem read_loop (S : ByteArray) (hS : S.size ≤ 2000000) (R : List UInt8) : ∀ (own : List S30) (p k : Nat) (acc : List S30), (∀ x, x ∈ own → Good x) → acc.length + own.length ≤ 1000 → p ≤ S.size → S.data.toList.drop p = itemsL own ++ ([69, 78, 68, 13, 10] ++ R) → 300 < k →
    say_Read.l0 (5 * own.length + (k + 1)) S (p : Int) acc = some (acc ++ own, ((p + (itemsL own).length + 5 : Nat) : Int), 0)
  | [], p, k, acc, _, _, hp, hd, hk => by
    rw [List.append_nil]
    show say_Read.l0 (0 + (k + 1)) S (p : Int) acc = _
    rw [Nat.zero_add]
    exact read_end S p k acc R hS hp hd hk
  | x :: own, p, k, acc, hg, ha, hp, hd, hk => by
    have hx := hg x List.mem_cons_self
    rw [List.length_cons] at ha
    have e1 : itemsL (x :: own) = (itemB x).data.toList ++ itemsL own := rfl
    rw [e1, List.append_assoc] at hd
    have h1 := read_step S p (5 * own.length + (k + 1)) x acc _ hS hx hp hd (by omega) (by omega)
    have hz := size_list (itemB x)
    have hd2 : S.data.toList.drop (p + (itemB x).size) = itemsL own ++ ([69, 78, 68, 13, 10] ++ R) := by
      rw [← List.drop_drop, hd]
      exact List.drop_left' hz
    have hp2 : p + (itemB x).size ≤ S.size := by
      have h3 := congrArg List.length hd
      rw [List.length_drop, List.length_append, hz, size_list] at h3
      rcases Nat.lt_or_ge S.size p with h | h
      · omega
      · omega
    rw [show 5 * (x :: own).length + (k + 1) = (5 * own.length + (k + 1)) + 5 by rw [List.length_cons]; omega, h1, read_loop S hS R own _ k _ (fun y hy => hg y (List.mem_cons_of_mem _ hy)) (by rw [List.length_append]; show acc.length + 1 + own.length ≤ 1000; omega) hp2 hd2 hk, e1, List.length_append, hz, List.append_assoc]
    rw [show p + (itemB x).size + (itemsL own).length + 5 = p + ((itemB x).size + (itemsL own).length) + 5 by omega]
    rfl
theorem read_all (a1 a2 : ByteArray) (own : List S30) (hg : ∀ x, x ∈ own → Good x) (hn : own.length ≤ 100) (h1 : a1.size ≤ 3000) (h2 : a2.size ≤ 3000) :
    say_Read.f (5 * own.length + 402) ((a1 ++ itemsB own) ++ a2) (a1.size : Int) = some (own, ((a1.size + (itemsB own).size : Nat) : Int), 0) := by
  have hsz : ∀ x, x ∈ own → SzI x := fun x hx => ⟨by have := (key_mem (hg x hx).2.2.2.2.1).2.2; omega, by have := (hg x hx).2.2.2.2.2; omega⟩
  have hl := itemsL_len own hsz
  have hb := itemsB_size own
  have hS : ((a1 ++ itemsB own) ++ a2).size = a1.size + (itemsB own).size + a2.size := by rw [ByteArray.size_append, ByteArray.size_append]
  have hd : ((a1 ++ itemsB own) ++ a2).data.toList.drop a1.size = itemsL own ++ ([69, 78, 68, 13, 10] ++ a2.data.toList) := by
    rw [data_app, data_app, List.append_assoc, List.drop_left' (size_list a1)]
    unfold itemsB
    rw [data_app, List.append_assoc]
    rfl
  have h := read_loop ((a1 ++ itemsB own) ++ a2) (by rw [hS]; omega) a2.data.toList own a1.size 400 [] hg (by show 0 + own.length ≤ 1000; omega) (by rw [hS]; omega) hd (by omega)
  unfold say_Read.f
  rw [if_neg (by omega), decide_eq_false (by rw [hS]; omega)]
  show say_Read.j0 ((5 * own.length + (400 + 1)) + 1) _ _ false = _
  rw [say_Read.j0, if_neg Bool.false_ne_true, h, hb, List.nil_append]
  rfl
theorem same_l0 (l : List S30) (hl : l.length ≤ 1000000) : ∀ d i k, l.length - i = d → i ≤ l.length → d < k → tattlerref06_Same.l0 k l l (l.length : Int) (i : Int) = some true := by
  intro d
  induction d with
  | zero =>
    intro i k hd hi hk
    obtain ⟨k, rfl⟩ : ∃ m, k = m + 1 := ⟨k - 1, by omega⟩
    obtain rfl : i = l.length := by omega
    simp only [tattlerref06_Same.l0]
    rw [if_neg (by omega)]
  | succ d ih =>
    intro i k hd hi hk
    obtain ⟨k, rfl⟩ : ∃ m, k = m + 1 := ⟨k - 1, by omega⟩
    have h1 : i < l.length := by omega
    have e2 : wrap64 ((i : Int) + 1) = ((i + 1 : Nat) : Int) := by rw [w64 (by omega) (by omega)]; omega
    simp only [tattlerref06_Same.l0]
    rw [if_pos (by clear e2; omega), if_pos (by clear e2; omega), if_pos (by clear e2; omega), if_pos (by clear e2; omega), if_neg (by simp), e2]
    clear e2
    exact ih (i + 1) k (by omega) (by omega) (by omega)
theorem same_is (l : List S30) (hl : l.length ≤ 1000) : tattlerref06_Same.f 2000 l l = some true := by
  unfold tattlerref06_Same.f
  rw [if_pos rfl]
  exact same_l0 l (by omega) l.length 0 2000 rfl (Nat.zero_le _) (by omega)
theorem may_is (f0 f5 : ByteArray) (f3 : Int) : tattlerref06_May.f 300 f0 0 0 0 3 f3 0 f5 = some (keyP f0 && decide (f5.size ≤ 1024)) := by
  have hk := refKey_is f0 300 (by omega)
  unfold tattlerref06_May.f
  rw [hk, Option.bind_some]
  cases hkp : keyP f0 with
  | false =>
    rw [if_neg Bool.false_ne_true]
    show tattlerref06_May.j0 (299 + 1) true f0 0 0 0 3 f3 0 f5 = _
    rw [tattlerref06_May.j0, if_pos rfl]
    rfl
  | true =>
    rw [if_pos rfl, if_neg (by decide), if_neg (by decide), if_neg (by decide)]
    show tattlerref06_May.j0 (299 + 1) (decide ((f5.size : Int) > 1024)) f0 0 0 0 3 f3 0 f5 = _
    rw [tattlerref06_May.j0]
    by_cases h : (f5.size : Int) > 1024
    · rw [if_pos (decide_eq_true h), decide_eq_false (by omega)]
      rfl
    · rw [if_neg (by rw [decide_eq_false h]; decide), if_neg (by decide), if_neg (by decide), decide_eq_true (by omega)]
      rfl
end Go.Proofs.YtbgoedhpndflpaaDoor.Say

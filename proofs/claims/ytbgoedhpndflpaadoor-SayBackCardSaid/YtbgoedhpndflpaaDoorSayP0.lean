/- What is said: the plain law, without the reference (own text). -/
import Derived.Test.YtbgoedhpndflpaaDoorSayBuild
import Derived.Test.YtbgoedhpndflpaaDoorPSayx0
namespace Go.Proofs.YtbgoedhpndflpaaDoor.Say
open Go.RowKit Go.Proofs.YtbgoedhpndflpaaDoorW.PrintWords Go.Proofs.YtbgoedhpndflpaaDoorW.PrintLast Go.Proofs.YtbgoedhpndflpaaDoorW.PrintMore Go.Proofs.YtbgoedhpndflpaaDoor.PSay
set_option linter.unusedVariables false
set_option linter.unusedSimpArgs false
theorem w64 {x : Int} (h0 : -9223372036854775808 ≤ x) (h1 : x ≤ 9223372036854775807) : wrap64 x = x := by unfold wrap64; omega
theorem ext_list {a b : ByteArray} (h : a.data.toList = b.data.toList) : a = b := by
  obtain ⟨⟨a⟩⟩ := a; obtain ⟨⟨b⟩⟩ := b
  have h : a = b := h
  rw [h]
theorem data_app (a b : ByteArray) : (a ++ b).data.toList = a.data.toList ++ b.data.toList := by rw [ByteArray.data_append, Array.toList_append]
theorem app_assoc (a b c : ByteArray) : (a ++ b) ++ c = a ++ (b ++ c) := ext_list (by simp only [data_app, List.append_assoc])
theorem empty_app (a : ByteArray) : (⟨#[]⟩ : ByteArray) ++ a = a := ext_list (by rw [data_app]; rfl)
theorem dec_len : ∀ k n : Nat, n < 10 ^ (k + 1) → (Lib.decDigits n).length ≤ k + 1
  | 0, n, h => by
    rw [Lib.decDigits, dif_pos (by omega)]
    exact Nat.le_refl _
  | k + 1, n, h => by
    rw [Lib.decDigits]
    split
    · show 1 ≤ k + 1 + 1; omega
    · rw [List.length_append]
      have := dec_len k (n / 10) (by rw [Nat.pow_succ] at h; omega)
      show (Lib.decDigits (n / 10)).length + 1 ≤ k + 1 + 1
      omega
theorem p20 : (18446744073709551616 : Nat) ≤ 10 ^ (19 + 1) := by decide
theorem decB_size (n : Nat) (h : n < 18446744073709551616) : (decB n).size ≤ 20 := by
  have h1 := dec_len 19 n (Nat.lt_of_lt_of_le h p20)
  show (Lib.decDigits n).toArray.size ≤ 20
  rw [List.size_toArray]
  exact h1
def digB (d : Nat) : ByteArray := ⟨#[UInt8.ofNat (48 + d)]⟩
theorem dig_str (n : Nat) (h : n < 18446744073709551616) : strOfNums [(IntKind.u64.wrap (48 + (Int.tmod (n : Int) 10))) % 256] = digB (n % 10) := by
  have e : (IntKind.u64.wrap (48 + (Int.tmod (n : Int) 10))) % 256 = ((48 + n % 10 : Nat) : Int) := by
    rw [show Int.tmod (n : Int) 10 = ((n % 10 : Nat) : Int) from rfl, IntKind.wrap_u64]
    omega
  rw [e]
  have hd : n % 10 < 10 := Nat.mod_lt _ (by omega)
  generalize n % 10 = d at *
  have : d = 0 ∨ d = 1 ∨ d = 2 ∨ d = 3 ∨ d = 4 ∨ d = 5 ∨ d = 6 ∨ d = 7 ∨ d = 8 ∨ d = 9 := by omega
  rcases this with rfl | rfl | rfl | rfl | rfl | rfl | rfl | rfl | rfl | rfl <;> rfl
theorem decB_big (n : Nat) (h : ¬ n < 10) : decB n = decB (n / 10) ++ digB (n % 10) := by
  apply ext_list
  rw [data_app]
  unfold decB digB
  rw [Lib.decDigits, dif_neg h]
theorem decB_small (n : Nat) (h : n < 10) : decB n = digB (n % 10) := by
  apply ext_list
  unfold decB digB
  rw [Lib.decDigits, dif_pos h, Nat.mod_eq_of_lt h]
/-! ### Items -/
def vB : ByteArray := ⟨#[86, 65, 76, 85, 69, 32]⟩
def spB : ByteArray := ⟨#[32]⟩
def nlB : ByteArray := ⟨#[13, 10]⟩
def endB : ByteArray := ⟨#[69, 78, 68, 13, 10]⟩
def statB : ByteArray := ⟨#[83, 84, 65, 84, 32]⟩
def flN (x : S30) : Nat := (IntKind.u64.wrap x.f3).toNat
theorem fl_eq (x : S30) : IntKind.u64.wrap x.f3 = (flN x : Int) := by
  unfold flN
  rw [IntKind.wrap_u64]
  omega
theorem fl_lt (x : S30) : flN x < 18446744073709551616 := by
  have h := fl_eq x
  rw [IntKind.wrap_u64] at h
  omega
def itemB (x : S30) : ByteArray := (((((((vB ++ x.f0) ++ spB) ++ decB (flN x)) ++ spB) ++ decB x.f5.size) ++ nlB) ++ x.f5) ++ nlB
def itemsL (l : List S30) : List UInt8 := l.flatMap (fun x => (itemB x).data.toList)
def itemsB (l : List S30) : ByteArray := ⟨(itemsL l).toArray⟩ ++ endB
def SzI (x : S30) : Prop := x.f0.size ≤ 3000 ∧ x.f5.size ≤ 3000
theorem sz_v : vB.size = 6 := rfl
theorem sz_sp : spB.size = 1 := rfl
theorem sz_nl : nlB.size = 2 := rfl
theorem sz_end : endB.size = 5 := rfl
theorem sz_stat : statB.size = 5 := rfl
theorem item_size (x : S30) (h : SzI x) : (itemB x).size ≤ 7000 := by
  have h1 := decB_size _ (fl_lt x)
  have h2 := decB_size x.f5.size (by have := h.2; omega)
  unfold itemB
  simp only [ByteArray.size_append, sz_v, sz_sp, sz_nl]
  have := h.1
  have := h.2
  omega
theorem itemsL_app (a b : List S30) : itemsL (a ++ b) = itemsL a ++ itemsL b := List.flatMap_append
theorem itemsL_len : ∀ (l : List S30), (∀ x, x ∈ l → SzI x) → (itemsL l).length ≤ l.length * 7000
  | [], _ => Nat.le_refl _
  | x :: l, h => by
    have h1 := itemsL_len l (fun y hy => h y (List.mem_cons_of_mem _ hy))
    have h2 := item_size x (h x List.mem_cons_self)
    show ((itemB x).data.toList ++ itemsL l).length ≤ (l.length + 1) * 7000
    rw [List.length_append]
    have h3 : (itemB x).data.toList.length = (itemB x).size := by rw [Array.length_toList]; rfl
    omega
theorem itemsL_snoc (l : List S30) (i : Nat) (h : i < l.length) : itemsL (l.take (i + 1)) = itemsL (l.take i) ++ (itemB l[i]).data.toList := by
  rw [List.take_succ_eq_append_getElem h, itemsL_app]
  show _ ++ ((itemB l[i]).data.toList ++ []) = _
  rw [List.append_nil]
theorem rd_at30 (l : List S30) (i : Nat) (h : i < l.length) : rd_T30 l (i : Int) = l[i] := by
  unfold rd_T30
  rw [Int.toNat_natCast, List.getD_eq_getElem?_getD, List.getElem?_eq_getElem h]; rfl
/-! ### Stats -/
def stB (x : S42) : ByteArray := (((statB ++ x.f0) ++ spB) ++ decB x.f1.toNat) ++ nlB
def statsL (l : List S42) : List UInt8 := l.flatMap (fun x => (stB x).data.toList)
def statsB (l : List S42) : ByteArray := ⟨(statsL l).toArray⟩ ++ endB
def SzS (x : S42) : Prop := x.f0.size ≤ 1000 ∧ 0 ≤ x.f1 ∧ x.f1 < 18446744073709551616
theorem st_size (x : S42) (h : SzS x) : (stB x).size ≤ 2000 := by
  obtain ⟨h3, h4, h5⟩ := h
  have h1 := decB_size x.f1.toNat (by omega)
  unfold stB
  simp only [ByteArray.size_append, sz_stat, sz_sp, sz_nl]
  omega
theorem statsL_app (a b : List S42) : statsL (a ++ b) = statsL a ++ statsL b := List.flatMap_append
theorem statsL_len : ∀ (l : List S42), (∀ x, x ∈ l → SzS x) → (statsL l).length ≤ l.length * 2000
  | [], _ => Nat.le_refl _
  | x :: l, h => by
    have h1 := statsL_len l (fun y hy => h y (List.mem_cons_of_mem _ hy))
    have h2 := st_size x (h x List.mem_cons_self)
    show ((stB x).data.toList ++ statsL l).length ≤ (l.length + 1) * 2000
    rw [List.length_append]
    have h3 : (stB x).data.toList.length = (stB x).size := by rw [Array.length_toList]; rfl
    omega
theorem statsL_snoc (l : List S42) (i : Nat) (h : i < l.length) : statsL (l.take (i + 1)) = statsL (l.take i) ++ (stB l[i]).data.toList := by
  rw [List.take_succ_eq_append_getElem h, statsL_app]
  show _ ++ ((stB l[i]).data.toList ++ []) = _
  rw [List.append_nil]
theorem rd_at42 (l : List S42) (i : Nat) (h : i < l.length) : rd_T42 l (i : Int) = l[i] := by
  unfold rd_T42
  rw [Int.toNat_natCast, List.getD_eq_getElem?_getD, List.getElem?_eq_getElem h]; rfl
end Go.Proofs.YtbgoedhpndflpaaDoor.Say

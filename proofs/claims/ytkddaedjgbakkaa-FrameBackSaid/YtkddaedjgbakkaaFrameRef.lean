/- What the document's frames come to: the printed functions' plain laws, and their contracts (own text over the kit's printed texts). -/
import Derived.Test.YtkddaedjgbakkaaFrameP3
import Derived.Test.YtkddaedjgbakkaaFramePlain
import Derived.Laws.BitsAllLaws
namespace Go.Proofs.Ytkddaedjgbakkaa.Frame
open Go.RowKit Go.Proofs.Ytkddaedjgbakkaa.Mem Go.Proofs.Ytkddaedjgbakkaa.Sum Go.Proofs.Ytkddaedjgbakkaa.PFrameDecodes
open Go.Proofs.YtkddaedjgbakkaaW.PrintWords (bt rd)
set_option linter.unusedVariables false
set_option linter.unusedSimpArgs false
theorem bt_by (s : ByteArray) (k : Nat) : bt s (k : Int) = (by' s k : Nat) := by
  unfold Go.Proofs.YtkddaedjgbakkaaW.PrintWords.bt by'
  simp only [Int.toNat_natCast]
  split <;> rfl
theorem nums4 (p q r s : Nat) : strOfNums [(p : Int), (q : Int), (r : Int), (s : Int)] = ofB 4 (b4 p q r s) := by
  apply ByteArray.ext
  apply Array.ext
  · simp [strOfNums, ofB]
  · intro i h1 h2
    have h4 : i < 4 := by simpa [strOfNums] using h1
    match i, h4 with
    | 0, _ => simp [strOfNums, ofB, b4]
    | 1, _ => simp [strOfNums, ofB, b4]
    | 2, _ => simp [strOfNums, ofB, b4]
    | 3, _ => simp [strOfNums, ofB, b4]
theorem w64 (n : Int) (h : 0 ≤ n) (h1 : n < 9223372036854775808) : wrap64 n = n := by
  unfold wrap64; omega
theorem four_f (k n : Nat) (h : n < 4294967296) : tattlerref04_Four.f (k + 5) (n : Int) = some (fourB n) := by
  have e0 : Int.tdiv (n : Int) 16777216 % 4294967296 % 256 = ((n / 16777216 % 256 : Nat) : Int) := by rw [Int.tdiv_eq_ediv_of_nonneg (by omega)]; omega
  have e1 : Int.tdiv (n : Int) 65536 % 4294967296 % 256 = ((n / 65536 % 256 : Nat) : Int) := by rw [Int.tdiv_eq_ediv_of_nonneg (by omega)]; omega
  have e2 : Int.tdiv (n : Int) 256 % 4294967296 % 256 = ((n / 256 % 256 : Nat) : Int) := by rw [Int.tdiv_eq_ediv_of_nonneg (by omega)]; omega
  have e3 : Int.tdiv (n : Int) 1 % 4294967296 % 256 = ((n % 256 : Nat) : Int) := by rw [Int.tdiv_one]; omega
  have r0 : rd [16777216, 65536, 256, 1] 0 = 16777216 := rfl
  have r1 : rd [16777216, 65536, 256, 1] 1 = 65536 := rfl
  have r2 : rd [16777216, 65536, 256, 1] 2 = 256 := rfl
  have r3 : rd [16777216, 65536, 256, 1] 3 = 1 := rfl
  have v1 : wrap64 (0 + 1) = 1 := by rw [w64 _ (by decide) (by decide)]; rfl
  have v2 : wrap64 (1 + 1) = 2 := by rw [w64 _ (by decide) (by decide)]; rfl
  have v3 : wrap64 (2 + 1) = 3 := by rw [w64 _ (by decide) (by decide)]; rfl
  have v4 : wrap64 (3 + 1) = 4 := by rw [w64 _ (by decide) (by decide)]; rfl
  show tattlerref04_Four.l0 (k + 4 + 1) n [] [16777216, 65536, 256, 1] 4 0 = _
  rw [tattlerref04_Four.l0, if_pos (by decide), if_pos (by decide), if_pos (by decide), r0, if_neg (by decide), if_pos (by decide), v1, e0]
  rw [tattlerref04_Four.l0, if_pos (by decide), if_pos (by decide), if_pos (by decide), r1, if_neg (by decide), if_pos (by simp), v2, e1]
  rw [tattlerref04_Four.l0, if_pos (by decide), if_pos (by decide), if_pos (by decide), r2, if_neg (by decide), if_pos (by simp), v3, e2]
  rw [tattlerref04_Four.l0, if_pos (by decide), if_pos (by decide), if_pos (by decide), r3, if_neg (by decide), if_pos (by simp), v4, e3]
  rw [tattlerref04_Four.l0, if_neg (by decide)]
  exact congrArg some (nums4 _ _ _ _)
theorem eight_step (k x j : Nat) (hx : x < 4294967296) (hj : j < 8) : tattlerref02_eight.l0 (k + 1) (x : Int) (j : Int) = tattlerref02_eight.l0 k ((st x : Nat) : Int) ((j + 1 : Nat) : Int) := by
  rw [tattlerref02_eight.l0, if_pos (by omega)]
  have e1 : Int.tmod (x : Int) 2 = ((x % 2 : Nat) : Int) := by rw [Int.tmod_eq_emod_of_nonneg (by omega)]; omega
  have e2 : Int.tdiv (x : Int) 2 % 4294967296 = ((x / 2 : Nat) : Int) := by rw [Int.tdiv_eq_ediv_of_nonneg (by omega)]; omega
  have e3 : wrap64 ((j : Int) + 1) = ((j + 1 : Nat) : Int) := by rw [w64 _ (by omega) (by omega)]; omega
  rw [e1, e2, e3]
  unfold st
  by_cases h : x % 2 = 1
  · rw [if_pos (by omega), if_pos h]
    have q := u32_xor_nat (x / 2) 3988292384 (by omega) (by decide)
    rw [show ((3988292384 : Nat) : Int) = 3988292384 from rfl] at q
    rw [q]
  · rw [if_neg (by omega), if_neg h]
theorem eight_it (x : Nat) (hx : x < 4294967296) : ∀ (m k : Nat), m ≤ 8 → tattlerref02_eight.l0 (k + m) ((it (8 - m) x : Nat) : Int) ((8 - m : Nat) : Int) = tattlerref02_eight.l0 k ((it 8 x : Nat) : Int) 8
  | 0, k, _ => rfl
  | m + 1, k, h => by
    rw [← Nat.add_assoc, eight_step (k + m) _ _ (it_lt hx _) (by omega)]
    have e : 8 - (m + 1) + 1 = 8 - m := by omega
    have es : st (it (8 - (m + 1)) x) = it (8 - m) x := by rw [← e]; rfl
    rw [e, es]
    exact eight_it x hx m k (by omega)
theorem eight_f (k x : Nat) (hx : x < 4294967296) : tattlerref02_eight.f (k + 9) (x : Int) = some ((ei x : Nat) : Int) := by
  have h := eight_it x hx 8 (k + 1) (by omega)
  show tattlerref02_eight.l0 (k + 9) (x : Int) 0 = _
  refine Eq.trans h ?_
  rw [tattlerref02_eight.l0, if_neg (by decide)]
  rfl
theorem more_l (s : ByteArray) (x : Nat) (hx : x < 4294967296) (hs : s.size ≤ 2000000) : ∀ (m k : Nat), m ≤ s.size → 10 ≤ k → tattlerref02_More.l0 (k + m) s ((go s x (s.size - m) : Nat) : Int) ((s.size - m : Nat) : Int) = some (((go s x s.size ^^^ 4294967295 : Nat)) : Int)
  | 0, k, _, hk => by
    obtain ⟨k, rfl⟩ : ∃ j, k = j + 1 := ⟨k - 1, by omega⟩
    rw [Nat.add_zero, tattlerref02_More.l0, if_neg (by omega)]
    have q := u32_xor_nat (go s x s.size) 4294967295 (go_lt s hx _) (by decide)
    rw [show ((4294967295 : Nat) : Int) = 4294967295 from rfl] at q
    rw [Nat.sub_zero, q]
  | m + 1, k, h, hk => by
    rw [← Nat.add_assoc, tattlerref02_More.l0, if_pos (by omega), if_pos (by omega), bt_by]
    have hb := by_lt s (s.size - (m + 1))
    have e1 : ((by' s (s.size - (m + 1)) : Nat) : Int) % 4294967296 = ((by' s (s.size - (m + 1)) : Nat) : Int) := by omega
    rw [e1, u32_xor_nat _ _ (go_lt s hx _) (by omega)]
    obtain ⟨j, hj⟩ : ∃ j, k + m = j + 9 := ⟨k + m - 9, by omega⟩
    have hxl : go s x (s.size - (m + 1)) ^^^ by' s (s.size - (m + 1)) < 4294967296 := Nat.xor_lt_two_pow (n := 32) (go_lt s hx _) (by omega)
    have e2 : tattlerref02_eight.f (k + m) ((go s x (s.size - (m + 1)) ^^^ by' s (s.size - (m + 1)) : Nat) : Int) = some ((ei (go s x (s.size - (m + 1)) ^^^ by' s (s.size - (m + 1))) : Nat) : Int) := by rw [hj]; exact eight_f j _ hxl
    have e3 : s.size - (m + 1) + 1 = s.size - m := by omega
    have e4 : ei (go s x (s.size - (m + 1)) ^^^ by' s (s.size - (m + 1))) = go s x (s.size - m) := by rw [← e3]; rfl
    have e5 : wrap64 (((s.size - (m + 1) : Nat) : Int) + 1) = ((s.size - m : Nat) : Int) := by rw [w64 _ (by omega) (by omega)]; omega
    rw [e2, Option.bind_some, e4, e5]
    exact more_l s x hx hs m k (by omega) hk
theorem sum_f (s : ByteArray) (hs : s.size ≤ 2000000) (k : Nat) (hk : s.size + 10 ≤ k) : tattlerref02_Sum.f k s = some ((more 0 s : Nat) : Int) := by
  have h := more_l s (0 ^^^ 4294967295) (by decide) hs s.size (k - s.size) (Nat.le_refl _) (by omega)
  rw [show k - s.size + s.size = k by omega, Nat.sub_self] at h
  have e : tattlerref02_More.f k 0 s = some ((more 0 s : Nat) : Int) := by
    show tattlerref02_More.l0 k s (Go.bits .xor .u32 0 4294967295) 0 = _
    have q := u32_xor_nat 0 4294967295 (by decide) (by decide)
    rw [show ((0 : Nat) : Int) = 0 from rfl, show ((4294967295 : Nat) : Int) = 4294967295 from rfl] at q
    rw [q]; exact h
  show (tattlerref02_More.f k 0 s).bind _ = _
  rw [e]; rfl
def encE (k f t : Nat) (b : ByteArray) : Int := if 1048576 < b.size then 4 else if mayF k f t = false then 1 else 0
def encS (k f t : Nat) (b : ByteArray) : ByteArray := if 1048576 < b.size then ⟨#[]⟩ else if mayF k f t = false then ⟨#[]⟩ else encB k f t b
theorem enc_f (k f t : Nat) (b : ByteArray) (m : Nat) (hm : b.size + 40 ≤ m) (hk : k < 256) (hf : f < 256) (ht : t < 256) : tattlerref04_Encode.f m (k : Int) (f : Int) (t : Int) b = some (encS k f t b, encE k f t b) := by
  unfold encS encE tattlerref04_Encode.f
  by_cases h0 : 1048576 < b.size
  · rw [if_pos (by omega), if_pos h0, if_pos h0]
  rw [if_neg (by omega), if_neg h0, if_neg h0]
  obtain ⟨m, rfl⟩ : ∃ j, m = j + 1 := ⟨m - 1, by omega⟩
  have hno : ∀ x, tattlerref04_Encode.j0 (m + 1) true (k : Int) (f : Int) (t : Int) x = some ((⟨#[]⟩ : ByteArray), 1) := fun x => by rw [tattlerref04_Encode.j0, if_pos rfl]
  by_cases h1 : k = 0
  · rw [if_pos (by omega), if_pos (show mayF k f t = false from decide_eq_false (by omega)), if_pos (show mayF k f t = false from decide_eq_false (by omega)), hno]
  rw [if_neg (by omega)]
  by_cases h2 : k > 14
  · rw [if_pos (by omega), if_pos (show mayF k f t = false from decide_eq_false (by omega)), if_pos (show mayF k f t = false from decide_eq_false (by omega)), hno]
  rw [if_neg (by omega)]
  by_cases h3 : f > 63
  · rw [if_pos (by omega), if_pos (show mayF k f t = false from decide_eq_false (by omega)), if_pos (show mayF k f t = false from decide_eq_false (by omega)), hno]
  rw [if_neg (by omega)]
  by_cases h4 : t > 63
  · rw [decide_eq_true (show (t : Int) > 63 by omega), if_pos (show mayF k f t = false from decide_eq_false (by omega)), if_pos (show mayF k f t = false from decide_eq_false (by omega)), hno]
  have hmay : mayF k f t = true := decide_eq_true (by omega)
  rw [decide_eq_false (show ¬ (t : Int) > 63 by omega), if_neg (by rw [hmay]; simp), if_neg (by rw [hmay]; simp), tattlerref04_Encode.j0, if_neg (by simp)]
  simp only [Option.bind_some]
  have hh : strOfNums [1, (k : Int), (f : Int), (t : Int)] = headB k f t := nums4 1 k f t
  have h32 : (b.size : Int) % 4294967296 = (b.size : Int) := by omega
  obtain ⟨j, hj⟩ : ∃ j, m = j + 5 := ⟨m - 5, by omega⟩
  have hp : headB k f t ++ fourB b.size ++ b = preB k f t b := rfl
  have z0 := headB_size k f t
  have z1 := fourB_size b.size
  have z2 := preB_size k f t b
  have z3 := fourB_size (more 0 (preB k f t b))
  have f1 : tattlerref04_Four.f m (b.size : Int) = some (fourB b.size) := by rw [hj]; exact four_f j _ (by omega)
  have f2 : tattlerref04_Four.f m ((more 0 (preB k f t b) : Nat) : Int) = some (fourB (more 0 (preB k f t b))) := by rw [hj]; exact four_f j _ (more_lt _ (by decide))
  rw [hh, h32, f1, Option.bind_some, if_pos (by rw [z0, z1]; omega), hp, if_pos (by rw [ByteArray.size_append, z0, z1]; omega), sum_f _ (by omega) m (by omega), Option.bind_some, f2, Option.bind_some, if_pos (by omega)]
  rfl
theorem refEnc_any (k f t : Nat) (b : ByteArray) (w : World) (hk : k < 256) (hf : f < 256) (ht : t < 256) :
    Calls Try.prog 9 #[.agg #[.int .u8 (k : Int), .int .u8 (f : Int), .int .u8 (t : Int), .string b]] w fun e w' => e = .returned (.tuple #[.string (encS k f t b), .int .i64 (encE k f t b)]) ∧ Below w.heap.size w w' :=
  tattlerref04_Encode.calls (b.size + 40) _ _ _ _ _ _ w (enc_f k f t b _ (Nat.le_refl _) hk hf ht)
end Go.Proofs.Ytkddaedjgbakkaa.Frame

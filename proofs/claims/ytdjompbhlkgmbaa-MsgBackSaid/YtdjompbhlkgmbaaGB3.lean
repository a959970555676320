/- What the row needs, laid together out of Mem, Draw, RecPlain, RecKey, RecMayD, PMsgx0, MsgBuild, NumGet, NumPut, NumRefPut, NumRefGet, NumText, MsgNum (own texts and texts printed for this seat; wip/tools/group.py). -/
import Derived.Test.YtdjompbhlkgmbaaGB1
import Derived.Test.YtdjompbhlkgmbaaGB2
import Derived.Test.YtdjompbhlkgmbaaProg
import Derived.WalkKit
import Derived.Deep.QuietTactic
import Derived.BigQuiet
import Derived.WalkLawsBesides
import Derived.WalkSpells
import Derived.Lib.Hide
import Derived.Handy
import Derived.PlainAid
import Derived.Deep.RegionHeld3
import Derived.Lib.Bytealg
import Derived.Laws.Externs
import Derived.Deep.Cut
import Derived.Below
import Derived.Deep.Draws
import Derived.Deep.AppendLies
import Derived.Maps.AppendAt
import Derived.OwnWalk
import Derived.Laws.BytesArg
import Derived.Laws.MakeOwn
import Derived.Laws.OwnMore
import Derived.Deep.OwnRows
import Derived.Tactics
import Derived.Lib.ConvBytes
import Derived.Laws.Slices
import Derived.KernelRfl
import Derived.RowKit3
import Derived.Deep.LoopGhost
import Derived.WideLaws
import Derived.Deep.DeepCutAuto
import Derived.Deep.CutBlock
import Derived.Laws.Rows
import Derived.Lib.AppendStr
import Derived.ArgAppend
import Derived.Laws.IdiomCopy
import Derived.OrdersHeld
import Derived.Laws.BitsLemmas
import Derived.RowKit
import Derived.Shelf.Strings.BuilderK
import Derived.Lib.OthersKept
section
/- Small words on memory: a block that is known whole, and which blocks may have turned (own text). -/
namespace Go.Proofs.Ytdjompbhlkgmbaa.Mem
open Go.RowKit
set_option linter.unusedVariables false
set_option linter.unusedSimpArgs false

/-- A block stands there whole. -/
def At (w : World) (b : Nat) (cs : Array Value) (t : TypeId) : Prop := w.heap[b]? = some (.cells cs t (0, 0))
theorem At.lt {w : World} {b : Nat} {cs : Array Value} {t : TypeId} (h : At w b cs t) : b < w.heap.size := by
  unfold At at h
  rcases Nat.lt_or_ge b w.heap.size with g | g
  · exact g
  · rw [Array.getElem?_eq_none g] at h; cases h
theorem At.cell {w : World} {b : Nat} {cs : Array Value} {t : TypeId} (h : At w b cs t) (i : Nat) : w.cell? ⟨b, i, none⟩ = cs[i]? := by
  unfold At at h
  simp only [World.cell?, h]
  simp
theorem At.free {w : World} {b : Nat} {cs : Array Value} {t : TypeId} (h : At w b cs t) (i : Nat) : w.frozen? ⟨b, i, none⟩ = false := by
  unfold At at h
  simp only [World.frozen?, h]
  simp
theorem at_set {w : World} {b i : Nat} {v : Value} {cs : Array Value} {t : TypeId} (h : At w b cs t) : At (w.setCell ⟨b, i, none⟩ v) b (cs.setIfInBounds i v) t := heap_setCell_same w b i cs t v h
theorem at_set' {w : World} {b i : Nat} {v : Value} {cs cs' : Array Value} {t : TypeId} (h : At w b cs t) (e : cs.setIfInBounds i v = cs') : At (w.setCell ⟨b, i, none⟩ v) b cs' t := e ▸ at_set h
theorem at_set_ne {w : World} {b b' i : Nat} {v : Value} {cs : Array Value} {t : TypeId} (h : At w b cs t) (hne : b ≠ b') : At (w.setCell ⟨b', i, none⟩ v) b cs t := (heap_setCell_other w ⟨b', i, none⟩ b v hne).trans h
theorem at_alloc {w : World} {b : Nat} {o : Obj} {cs : Array Value} {t : TypeId} (h : At w b cs t) : At (w.alloc o) b cs t := (heap_alloc_old w o h.lt).trans h
theorem at_new (w : World) (cs : Array Value) (t : TypeId) : At (w.alloc (.cells cs t)) w.heap.size cs t := heap_alloc_new w _
theorem at_drewN {w : World} {b n : Nat} {cs : Array Value} {t : TypeId} (h : At w b cs t) : At (w.drewN n) b cs t := h
theorem at_drew {w : World} {b : Nat} {cs : Array Value} {t : TypeId} (h : At w b cs t) : At w.drew b cs t := h
theorem at_below {w w' : World} {b : Nat} {cs : Array Value} {t : TypeId} (h : At w b cs t) (k : Below w.heap.size w w') : At w' b cs t := (k.block b h.lt).trans h

/-- The blocks of S may have turned; the others that were there have not. -/
structure Chg (S : Nat → Prop) (w w' : World) : Prop where
  os : w'.os = w.os
  tape : w'.tape = w.tape
  output : w'.output = w.output
  size : w.heap.size ≤ w'.heap.size
  block : ∀ i, i < w.heap.size → ¬ S i → w'.heap[i]? = w.heap[i]?
theorem chg_refl (S : Nat → Prop) (w : World) : Chg S w w := ⟨rfl, rfl, rfl, Nat.le_refl _, fun _ _ _ => rfl⟩
theorem chg_below {S : Nat → Prop} {w w' w2 : World} (h : Chg S w w') (k : Below w'.heap.size w' w2) : Chg S w w2 :=
  ⟨k.os.trans h.os, k.tape.trans h.tape, k.output.trans h.output, Nat.le_trans h.size k.size, fun i hi hs => (k.block i (Nat.lt_of_lt_of_le hi h.size)).trans (h.block i hi hs)⟩
theorem chg_then {S : Nat → Prop} {w w' w2 : World} (h : Chg S w w') (k : Chg S w' w2) : Chg S w w2 :=
  ⟨k.os.trans h.os, k.tape.trans h.tape, k.output.trans h.output, Nat.le_trans h.size k.size, fun i hi hs => (k.block i (Nat.lt_of_lt_of_le hi h.size) hs).trans (h.block i hi hs)⟩
theorem chg_drewN {S : Nat → Prop} {w w' : World} {n : Nat} (h : Chg S w w') : Chg S w (w'.drewN n) := ⟨h.os, h.tape, h.output, h.size, h.block⟩
theorem chg_drew {S : Nat → Prop} {w w' : World} (h : Chg S w w') : Chg S w w'.drew := ⟨h.os, h.tape, h.output, h.size, h.block⟩
theorem chg_alloc {S : Nat → Prop} {w w' : World} {o : Obj} (h : Chg S w w') : Chg S w (w'.alloc o) :=
  ⟨h.os, h.tape, h.output, by rw [World.size_alloc]; have := h.size; omega, fun i hi hs => (heap_alloc_old w' o (Nat.lt_of_lt_of_le hi h.size)).trans (h.block i hi hs)⟩
theorem chg_set {S : Nat → Prop} {w w' : World} {b i : Nat} {v : Value} (h : Chg S w w') (hb : S b) : Chg S w (w'.setCell ⟨b, i, none⟩ v) :=
  ⟨h.os, h.tape, h.output, by simp only [World.setCell, Array.size_modify]; exact h.size, fun j hj hs => (heap_setCell_other w' ⟨b, i, none⟩ j v (fun e => hs (by rw [e]; exact hb))).trans (h.block j hj hs)⟩
theorem chg_set_new {S : Nat → Prop} {w w' : World} {b i : Nat} {v : Value} (h : Chg S w w') (hb : w.heap.size ≤ b) : Chg S w (w'.setCell ⟨b, i, none⟩ v) :=
  ⟨h.os, h.tape, h.output, by simp only [World.setCell, Array.size_modify]; exact h.size, fun j hj hs => (heap_setCell_other w' ⟨b, i, none⟩ j v (fun e => by rw [e] at hj; exact absurd hj (Nat.not_lt.2 hb))).trans (h.block j hj hs)⟩
/-- What turned stands above a base: below it nothing has turned. -/
theorem below_chg {S : Nat → Prop} {w0 w w' : World} (h : Below w0.heap.size w0 w) (k : Chg S w w') (hs : ∀ i, S i → w0.heap.size ≤ i) : Below w0.heap.size w0 w' :=
  ⟨k.os.trans h.os, k.tape.trans h.tape, k.output.trans h.output, Nat.le_trans h.size k.size, fun i hi => (k.block i (Nat.lt_of_lt_of_le hi h.size) (fun g => absurd hi (Nat.not_lt.2 (hs i g)))).trans (h.block i hi)⟩
theorem at_chg {S : Nat → Prop} {w w' : World} {b : Nat} {cs : Array Value} {t : TypeId} (h : At w b cs t) (k : Chg S w w') (hs : ¬ S b) : At w' b cs t := (k.block b h.lt hs).trans h
theorem below_on {w W w2 : World} (h : Below w.heap.size w W) (k : Below W.heap.size W w2) : Below w.heap.size w w2 := h.trans (k.mono h.size)
theorem below_dn {w W : World} {n : Nat} (h : Below w.heap.size w W) : Below w.heap.size w (W.drewN n) := ⟨h.os, h.tape, h.output, h.size, h.block⟩
theorem below_al {w W : World} {o : Obj} (h : Below w.heap.size w W) : Below w.heap.size w (W.alloc o) := h.alloc h.size o
theorem below_new {w W : World} {b i : Nat} {v : Value} (h : Below w.heap.size w W) (hb : w.heap.size ≤ b) : Below w.heap.size w (W.setCell ⟨b, i, none⟩ v) := h.setCell hb v
theorem at1 {w : World} {b : Nat} {t : TypeId} {v0 : Value} (h : At w b #[v0] t) : w.cell? ⟨b, 0, none⟩ = some v0 ∧ w.frozen? ⟨b, 0, none⟩ = false := ⟨h.cell 0, h.free 0⟩
theorem at3 {w : World} {b : Nat} {t : TypeId} {v0 v1 v2 : Value} (h : At w b #[v0, v1, v2] t) : w.cell? ⟨b, 0, none⟩ = some v0 ∧ w.cell? ⟨b, 1, none⟩ = some v1 ∧ w.cell? ⟨b, 2, none⟩ = some v2 ∧ w.frozen? ⟨b, 0, none⟩ = false ∧ w.frozen? ⟨b, 1, none⟩ = false ∧ w.frozen? ⟨b, 2, none⟩ = false := ⟨h.cell 0, h.cell 1, h.cell 2, h.free 0, h.free 1, h.free 2⟩
theorem at4 {w : World} {b : Nat} {t : TypeId} {v0 v1 v2 v3 : Value} (h : At w b #[v0, v1, v2, v3] t) : w.cell? ⟨b, 0, none⟩ = some v0 ∧ w.cell? ⟨b, 1, none⟩ = some v1 ∧ w.cell? ⟨b, 2, none⟩ = some v2 ∧ w.cell? ⟨b, 3, none⟩ = some v3 ∧ w.frozen? ⟨b, 0, none⟩ = false ∧ w.frozen? ⟨b, 1, none⟩ = false ∧ w.frozen? ⟨b, 2, none⟩ = false ∧ w.frozen? ⟨b, 3, none⟩ = false := ⟨h.cell 0, h.cell 1, h.cell 2, h.cell 3, h.free 0, h.free 1, h.free 2, h.free 3⟩
theorem at8 {w : World} {b : Nat} {t : TypeId} {v0 v1 v2 v3 v4 v5 v6 v7 : Value} (h : At w b #[v0, v1, v2, v3, v4, v5, v6, v7] t) : w.cell? ⟨b, 0, none⟩ = some v0 ∧ w.cell? ⟨b, 1, none⟩ = some v1 ∧ w.cell? ⟨b, 2, none⟩ = some v2 ∧ w.cell? ⟨b, 3, none⟩ = some v3 ∧ w.cell? ⟨b, 4, none⟩ = some v4 ∧ w.cell? ⟨b, 5, none⟩ = some v5 ∧ w.cell? ⟨b, 6, none⟩ = some v6 ∧ w.cell? ⟨b, 7, none⟩ = some v7 ∧ w.frozen? ⟨b, 0, none⟩ = false ∧ w.frozen? ⟨b, 1, none⟩ = false ∧ w.frozen? ⟨b, 2, none⟩ = false ∧ w.frozen? ⟨b, 3, none⟩ = false ∧ w.frozen? ⟨b, 4, none⟩ = false ∧ w.frozen? ⟨b, 5, none⟩ = false ∧ w.frozen? ⟨b, 6, none⟩ = false ∧ w.frozen? ⟨b, 7, none⟩ = false := ⟨h.cell 0, h.cell 1, h.cell 2, h.cell 3, h.cell 4, h.cell 5, h.cell 6, h.cell 7, h.free 0, h.free 1, h.free 2, h.free 3, h.free 4, h.free 5, h.free 6, h.free 7⟩
end Go.Proofs.Ytdjompbhlkgmbaa.Mem
end
section
/- A region that draws its order, one operation after the other, in an order of the prover's: the operation is found by a walk over the list, so that it stands written out (own text, over the guide's laws). -/
namespace Go.Proofs.Ytdjompbhlkgmbaa.Draw
open Go.RowKit
variable {P : Program} {ops : Array Oper} {Q : Exit → Act → World → Prop} {md : Region.Mode} {S : World → Prop}
theorem nth {i : Nat} {o : Oper} {rest : List Oper} (h : ops.toList.drop i = o :: rest) : ops[i]? = some o := by
  have := congrArg (fun l => l[0]?) h
  simpa using this
/-- Number i is wanted, and yields v wherever S holds. -/
theorem take_w {i : Nat} {o : Oper} {rest : List Oper} {v : Value} {fuel : Nat} {listed : Array Bool} {a : Act} {w : World} (h : ops.toList.drop i = o :: rest)
    (hs : Region.noSelect ops = true) (hf : Region.free md ops listed i = true) (hr : (Region.ready md ops listed).contains i = true)
    (hQ : ∀ c a w, Q (.panic c) (a.put o.dst v) w → Q (.panic c) a w) (hw : Region.wanted o (yielded ops a.tmps) = true) (hy : ∀ w, S w → (execOp a.eval o).run P w = .ok (.value v) w) (hS : S w)
    (hk : wpAnyH P md ops Q S fuel (listed.setIfInBounds i true) (a.put o.dst v) w) : wpAnyH P md ops Q S (fuel + 1) listed a w :=
  wpAnyH_take (nth h) hs hf hr hQ (Or.inl ⟨hw, hy⟩) hS hk
/-- Number i alone may come up, and is wanted. -/
theorem call_d {i : Nat} {o : Oper} {rest : List Oper} {fuel : Nat} {listed : Array Bool} {a : Act} {w : World} (h : ops.toList.drop i = o :: rest)
    (hr : Region.ready md ops listed = [i]) (hw : Region.wanted o (yielded ops a.tmps) = true)
    (hk : ∀ K : Act → World → Prop, Shut (∀ a w, S w → (S w → wpAnyH P md ops Q S fuel (listed.setIfInBounds i true) a w) → K a w) → Oper.wp P o a w K Q) : wpAnyH P md ops Q S (fuel + 1) listed a w :=
  wpAnyH_ready hr (by simp) (AllReadyH.cons (nth h) (fun K hK => by rw [if_pos hw]; exact hk K hK) (fun j hj => by simp at hj))
end Go.Proofs.Ytdjompbhlkgmbaa.Draw
end
section
/- What of RecPlain the keys' and records' walks need, where a seat lacks hlc.Compare (own text; laid as RecPlain in seat 22). -/
namespace Go.Proofs.Ytdjompbhlkgmbaa.Hlc
end Go.Proofs.Ytdjompbhlkgmbaa.Hlc
namespace Go.Proofs.Ytdjompbhlkgmbaa.Rec
/-- Byte k of a text. -/
def bt (s : ByteArray) (k : Nat) : Nat := if h : k < s.size then (s[k]'h).toNat else 0
theorem bt_at (s : ByteArray) (k : Nat) (h : k < s.size) : (s[k]'h).toNat = bt s k := by unfold bt; rw [dif_pos h]
end Go.Proofs.Ytdjompbhlkgmbaa.Rec
end
section
/- Which records may be, which are live, and the reference's order: the walks (own text; printed by wip/tools/gen_recref.py, a program of this session). -/
namespace Go.Proofs.Ytdjompbhlkgmbaa.Rec
open Go.RowKit Go.Proofs.Ytdjompbhlkgmbaa.Mem Go.Proofs.Ytdjompbhlkgmbaa.Hlc Go.Proofs.Ytdjompbhlkgmbaa
set_option linter.unusedVariables false
set_option linter.unusedSimpArgs false
/-- Which keys may be. -/
def keyMay (s : ByteArray) : Bool := decide (1 ≤ s.size ∧ s.size ≤ 250 ∧ ∀ i, i < s.size → 33 ≤ bt s i ∧ bt s i ≠ 127)
theorem empty_of {s : ByteArray} (h : s.size = 0) : s.toList.isEmpty = true := by
  rw [Lib.toList_data, List.isEmpty_iff, ← List.length_eq_zero_iff, ← Lib.size_eq]; exact h
theorem full_of {s : ByteArray} (h : ¬ s.size = 0) : s.toList.isEmpty = false := by
  rw [Lib.toList_data, List.isEmpty_eq_false_iff, ← List.length_pos_iff, ← Lib.size_eq]; omega
theorem keyMay_bad {s : ByteArray} {k : Nat} (hk : k < s.size) (h : bt s k < 33 ∨ bt s k = 127) : keyMay s = false := decide_eq_false (fun g => by have := g.2.2 k hk; omega)
theorem keyMay_size {s : ByteArray} (h : s.size = 0 ∨ 250 < s.size) : keyMay s = false := decide_eq_false (fun g => by omega)
theorem keyMay_good {s : ByteArray} (h0 : s.size ≠ 0) (h1 : ¬ 250 < s.size) (h : ∀ i, i < s.size → 33 ≤ bt s i ∧ bt s i ≠ 127) : keyMay s = true := decide_eq_true ⟨by omega, by omega, h⟩
theorem key_any_loop (s : ByteArray) (w : World) (hsz : s.size ≤ 1000000) :
    Calls Try.prog 57 #[.string s] w fun e w' => e = .returned (.bool (keyMay s)) ∧ Below w.heap.size w w' := by
  have HE := Lib.hid (fun h => keyMay_good (s := s) (And.left h) (And.left (And.right h)) (And.right (And.right h)))
  go_enter Try.func57, Try.ntmps57
  go_wp2_with (fail)
  go_loopw [6] (fun x w' => ∃ k : Nat, k ≤ s.size ∧ x = .int .i64 k ∧ Hid (∀ i, i < k → 33 ≤ bt s i ∧ bt s i ≠ 127) ∧ w' = w) (fun x _ => s.size - (intOf x).toNat)
  case atStart => exact ⟨0, by omega, rfl, Lib.hid (fun i hi => by omega), rfl⟩
  case round =>
    obtain ⟨k, hk, rfl, HZ, rfl⟩ := hrel
    by_cases hlt : k < s.size
    · have hat := bt_at s k hlt
      have hbad := Lib.hid (fun h => keyMay_bad hlt h)
      have hz := Lib.hid (fun (h : 33 ≤ bt s k ∧ bt s k ≠ 127) => (fun i hi => by by_cases e : i = k; exact e ▸ h; exact HZ.out i (by omega) : ∀ i, i < k + 1 → 33 ≤ bt s i ∧ bt s i ≠ 127))
      generalize hzz : bt s k = z at hat hbad hz
      clear hzz
      by_cases h1 : z < 33
      · have hr := hbad.out (Or.inl h1)
        have c1 : decide ((z : Int) ≤ 32) = true := decide_eq_true (by omega)
        clear hz hbad
        go_wp2_with (fail)
        go_ret
        exact ⟨by rw [hr]; rfl, Below.refl _ _⟩
      · have c1 : decide ((z : Int) ≤ 32) = false := decide_eq_false (by omega)
        by_cases h2 : z = 127
        · have hr := hbad.out (Or.inr h2)
          subst h2
          clear hz hbad h1
          go_wp2_with (fail)
          go_ret
          exact ⟨by rw [hr]; rfl, Below.refl _ _⟩
        · have c2 : ((z : Int) == 127) = false := beq_eq_false_iff_ne.2 (by omega)
          have hz3 := Lib.hid (hz.out ⟨by omega, h2⟩)
          clear hz hbad
          go_wp2_with (fail)
          exact ⟨⟨k + 1, by omega, by go_num, hz3, trivial⟩, by simp [intOf]; omega⟩
    · obtain rfl : k = s.size := by omega
      by_cases g0 : s.size = 0
      · have hr := keyMay_size (Or.inl g0)
        have c3 : decide ((1 : Int) ≤ (s.size : Int)) = false := decide_eq_false (by omega)
        clear g0
        go_wp2_with (fail)
        go_ret
        exact ⟨by rw [hr]; rfl, Below.refl _ _⟩
      · have c3 : decide ((1 : Int) ≤ (s.size : Int)) = true := decide_eq_true (by omega)
        by_cases g1 : 250 < s.size
        · have hr := keyMay_size (Or.inr g1)
          have c4 : decide ((s.size : Int) ≤ 250) = false := decide_eq_false (by omega)
          go_wp2_with (fail)
          go_ret
          exact ⟨by rw [hr]; rfl, Below.refl _ _⟩
        · have hr := HE.out ⟨g0, g1, HZ.out⟩
          have c4 : decide ((s.size : Int) ≤ 250) = true := decide_eq_true (by omega)
          go_wp2_with (fail)
          go_ret
          exact ⟨by rw [hr]; rfl, Below.refl _ _⟩
theorem key_any (s : ByteArray) (w : World) (hsz : s.size ≤ 1000000) : Calls Try.prog 57 #[.string s] w fun e w' => e = .returned (.bool (keyMay s)) ∧ Below w.heap.size w w' := key_any_loop s w hsz
theorem refKey_any_loop (s : ByteArray) (w : World) (hsz : s.size ≤ 1000000) (hs0 : s.size ≠ 0) (hs1 : ¬ 250 < s.size) :
    Calls Try.prog 50 #[.string s] w fun e w' => e = .returned (.bool (keyMay s)) ∧ Below w.heap.size w w' := by
  have c8 : ((s.size : Int) == 0) = false := beq_eq_false_iff_ne.2 (by omega)
  have c9 : decide ((250 : Int) < (s.size : Int)) = false := decide_eq_false (by omega)
  have HE := Lib.hid (fun h => keyMay_good (s := s) hs0 hs1 h)
  clear hs0 hs1
  go_enter Try.func50, Try.ntmps50
  go_wp2_with (fail)
  go_loopw [3] (fun x w' => ∃ k : Nat, k ≤ s.size ∧ x = .int .i64 k ∧ Hid (∀ i, i < k → 33 ≤ bt s i ∧ bt s i ≠ 127) ∧ w' = w) (fun x _ => s.size - (intOf x).toNat)
  case atStart => exact ⟨0, by omega, rfl, Lib.hid (fun i hi => by omega), rfl⟩
  case round =>
    obtain ⟨k, hk, rfl, HZ, rfl⟩ := hrel
    by_cases hlt : k < s.size
    · have hat := bt_at s k hlt
      have hbad := Lib.hid (fun h => keyMay_bad hlt h)
      have hz := Lib.hid (fun (h : 33 ≤ bt s k ∧ bt s k ≠ 127) => (fun i hi => by by_cases e : i = k; exact e ▸ h; exact HZ.out i (by omega) : ∀ i, i < k + 1 → 33 ≤ bt s i ∧ bt s i ≠ 127))
      generalize hzz : bt s k = z at hat hbad hz
      clear hzz
      by_cases h1 : z < 33
      · have hr := hbad.out (Or.inl h1)
        have c1 : decide ((z : Int) < 33) = true := decide_eq_true (by omega)
        clear hz hbad
        go_wp2_with (fail)
        go_ret
        exact ⟨by rw [hr]; rfl, Below.refl _ _⟩
      · have c1 : decide ((z : Int) < 33) = false := decide_eq_false (by omega)
        by_cases h2 : z = 127
        · have hr := hbad.out (Or.inr h2)
          subst h2
          clear hz hbad h1
          go_wp2_with (fail)
          go_ret
          exact ⟨by rw [hr]; rfl, Below.refl _ _⟩
        · have c2 : ((z : Int) == 127) = false := beq_eq_false_iff_ne.2 (by omega)
          have hz3 := Lib.hid (hz.out ⟨by omega, h2⟩)
          clear hz hbad
          go_wp2_with (fail)
          exact ⟨⟨k + 1, by omega, by go_num, hz3, trivial⟩, by simp [intOf]; omega⟩
    · obtain rfl : k = s.size := by omega
      have hr := HE.out HZ.out
      go_wp2_with (fail)
      go_ret
      exact ⟨by rw [hr]; rfl, Below.refl _ _⟩
theorem refKey_any (s : ByteArray) (w : World) (hsz : s.size ≤ 1000000) : Calls Try.prog 50 #[.string s] w fun e w' => e = .returned (.bool (keyMay s)) ∧ Below w.heap.size w w' := by
  by_cases g0 : s.size = 0
  · rw [keyMay_size (Or.inl g0)]
    have c8 : ((s.size : Int) == 0) = true := beq_iff_eq.2 (by omega)
    clear g0
    go_enter Try.func50, Try.ntmps50
    go_wp2_with (fail)
    go_ret
    exact ⟨rfl, Below.refl _ _⟩
  · by_cases g1 : 250 < s.size
    · rw [keyMay_size (Or.inr g1)]
      have c8 : ((s.size : Int) == 0) = false := beq_eq_false_iff_ne.2 (by omega)
      have c9 : decide ((250 : Int) < (s.size : Int)) = true := decide_eq_true (by omega)
      go_enter Try.func50, Try.ntmps50
      go_wp2_with (fail)
      go_ret
      exact ⟨rfl, Below.refl _ _⟩
    · exact refKey_any_loop s w hsz g0 g1
end Go.Proofs.Ytdjompbhlkgmbaa.Rec
end
section
/- Which records may be, which are live, and the reference's order: the walks (own text; printed by wip/tools/gen_recref.py, a program of this session). -/
namespace Go.Proofs.Ytdjompbhlkgmbaa.Rec
open Go.RowKit Go.Proofs.Ytdjompbhlkgmbaa.Mem Go.Proofs.Ytdjompbhlkgmbaa.Hlc Go.Proofs.Ytdjompbhlkgmbaa
set_option linter.unusedVariables false
set_option linter.unusedSimpArgs false
/-- Which records may be. -/
def mayR (rk : ByteArray) (rp rn rd rf rx : Int) (rb : ByteArray) : Bool := if keyMay rk = false then false else
  if 281474976710655 < rp then false else
  if 63 < rn then false else
  if 281474976710655 < rx then false else
  if 1024 < rb.size then false else
  if rd = 3 then true else
  if rd = 1 then (if rf = 0 then (if rx = 0 then (if rb.size = 0 then true else
  false) else
  false) else
  false) else
  if rd = 2 then (if rf = 0 then (if rx = 0 then (if rb.size = 0 then true else
  false) else
  false) else
  false) else
  false
end Go.Proofs.Ytdjompbhlkgmbaa.Rec
end
section
namespace Go.Proofs.Ytdjompbhlkgmbaa.PMsg
open Go.RowKit Go.Proofs.YtdjompbhlkgmbaaW.PrintWords Go.Proofs.YtdjompbhlkgmbaaW.PrintLast Go.Proofs.YtdjompbhlkgmbaaW.PrintMore
attribute [local go_sem] max2_int min2_int max_two min_two max_three min_three max_four min_four   -- for this text's walks alone
set_option linter.unusedVariables false
set_option linter.unusedSimpArgs false



def errW : Option Int → Value
  | none => .nilIface
  | some c => .iface 0 (.int .i64 c)
theorem errW_none : errW none = .nilIface := rfl
theorem errW_some (c : Int) : errW (some c) = .iface 0 (.int .i64 c) := rfl

-- the values' own types
/-! #### struct type 52 -/
structure S52 where
  f0 : Int
  f1 : Int
  f2 : Int
def z52 : S52 := ⟨(0 : Int), (0 : Int), (0 : Int)⟩
def k52 : Kd S52 := Kd.iso (Kd.pair (Kd.int .u64) (Kd.pair (Kd.int .u32) (Kd.int .u8))) (fun x : S52 => (x.f0, x.f1, x.f2))
theorem k52_open {w : World} {x : S52} {cs : List Value} (h : k52.K w x cs) : cs = [.int .u64 x.f0, .int .u32 x.f1, .int .u8 x.f2] := by
  obtain ⟨_, _, rfl, rfl, ⟨_, _, rfl, rfl, rfl⟩⟩ := h
  exact rfl
theorem k52_mk (w : World) (x : S52)  : k52.K w x [.int .u64 x.f0, .int .u32 x.f1, .int .u8 x.f2] := ⟨[.int .u64 x.f0], [.int .u32 x.f1, .int .u8 x.f2], rfl, rfl, ⟨[.int .u32 x.f1], [.int .u8 x.f2], rfl, rfl, rfl⟩⟩
theorem k52_mkM (w : World) (base : Nat) (ok : Nat → Prop) (x : S52)  : k52.M w base ok x [.int .u64 x.f0, .int .u32 x.f1, .int .u8 x.f2] := ⟨[.int .u64 x.f0], [.int .u32 x.f1, .int .u8 x.f2], rfl, rfl, ⟨[.int .u32 x.f1], [.int .u8 x.f2], rfl, rfl, rfl⟩⟩
/-! #### struct type 54 -/
structure S54 where
  f0 : ByteArray
  f1 : S52
  f2 : Int
  f3 : Int
  f4 : Int
  f5 : ByteArray
def z54 : S54 := ⟨(⟨#[]⟩ : ByteArray), z52, (0 : Int), (0 : Int), (0 : Int), (⟨#[]⟩ : ByteArray)⟩
def k54 : Kd S54 := Kd.iso (Kd.pair Kd.string (Kd.pair k52 (Kd.pair (Kd.int .u8) (Kd.pair (Kd.int .u32) (Kd.pair (Kd.int .u64) Kd.string))))) (fun x : S54 => (x.f0, x.f1, x.f2, x.f3, x.f4, x.f5))
theorem k54_open {w : World} {x : S54} {cs : List Value} (h : k54.K w x cs) : cs = [.string x.f0, .int .u64 x.f1.f0, .int .u32 x.f1.f1, .int .u8 x.f1.f2, .int .u8 x.f2, .int .u32 x.f3, .int .u64 x.f4, .string x.f5] := by
  obtain ⟨_, _, rfl, rfl, ⟨_, _, rfl, s1, ⟨_, _, rfl, rfl, ⟨_, _, rfl, rfl, ⟨_, _, rfl, rfl, rfl⟩⟩⟩⟩⟩ := h
  obtain rfl := k52_open s1
  exact rfl
theorem k54_mk (w : World) (x : S54)  : k54.K w x [.string x.f0, .int .u64 x.f1.f0, .int .u32 x.f1.f1, .int .u8 x.f1.f2, .int .u8 x.f2, .int .u32 x.f3, .int .u64 x.f4, .string x.f5] := ⟨[.string x.f0], [.int .u64 x.f1.f0, .int .u32 x.f1.f1, .int .u8 x.f1.f2, .int .u8 x.f2, .int .u32 x.f3, .int .u64 x.f4, .string x.f5], rfl, rfl, ⟨[.int .u64 x.f1.f0, .int .u32 x.f1.f1, .int .u8 x.f1.f2], [.int .u8 x.f2, .int .u32 x.f3, .int .u64 x.f4, .string x.f5], rfl, (k52_mk w x.f1 ), ⟨[.int .u8 x.f2], [.int .u32 x.f3, .int .u64 x.f4, .string x.f5], rfl, rfl, ⟨[.int .u32 x.f3], [.int .u64 x.f4, .string x.f5], rfl, rfl, ⟨[.int .u64 x.f4], [.string x.f5], rfl, rfl, rfl⟩⟩⟩⟩⟩
theorem k54_mkM (w : World) (base : Nat) (ok : Nat → Prop) (x : S54)  : k54.M w base ok x [.string x.f0, .int .u64 x.f1.f0, .int .u32 x.f1.f1, .int .u8 x.f1.f2, .int .u8 x.f2, .int .u32 x.f3, .int .u64 x.f4, .string x.f5] := ⟨[.string x.f0], [.int .u64 x.f1.f0, .int .u32 x.f1.f1, .int .u8 x.f1.f2, .int .u8 x.f2, .int .u32 x.f3, .int .u64 x.f4, .string x.f5], rfl, rfl, ⟨[.int .u64 x.f1.f0, .int .u32 x.f1.f1, .int .u8 x.f1.f2], [.int .u8 x.f2, .int .u32 x.f3, .int .u64 x.f4, .string x.f5], rfl, (k52_mkM w base ok x.f1 ), ⟨[.int .u8 x.f2], [.int .u32 x.f3, .int .u64 x.f4, .string x.f5], rfl, rfl, ⟨[.int .u32 x.f3], [.int .u64 x.f4, .string x.f5], rfl, rfl, ⟨[.int .u64 x.f4], [.string x.f5], rfl, rfl, rfl⟩⟩⟩⟩⟩
def rd_T54 (xs : List S54) (i : Int) : S54 := xs.getD i.toNat z54
theorem at_T54 {w : World} {A : Option Addr} {n : Nat} {xs : List S54} (h : Kd.C k54 w A n xs) (i : Int) (h0 : 0 ≤ i) (h1 : i < n) : ∃ ad , A = some ad ∧ w.cell? (ad.add (i.toNat * 8)) = some (.string (rd_T54 xs i).f0) ∧ w.cell? ⟨(ad.add (i.toNat * 8)).block, (ad.add (i.toNat * 8)).off + 1, none⟩ = some (.int .u64 (rd_T54 xs i).f1.f0) ∧ w.cell? ⟨(ad.add (i.toNat * 8)).block, (ad.add (i.toNat * 8)).off + 2, none⟩ = some (.int .u32 (rd_T54 xs i).f1.f1) ∧ w.cell? ⟨(ad.add (i.toNat * 8)).block, (ad.add (i.toNat * 8)).off + 3, none⟩ = some (.int .u8 (rd_T54 xs i).f1.f2) ∧ w.cell? ⟨(ad.add (i.toNat * 8)).block, (ad.add (i.toNat * 8)).off + 4, none⟩ = some (.int .u8 (rd_T54 xs i).f2) ∧ w.cell? ⟨(ad.add (i.toNat * 8)).block, (ad.add (i.toNat * 8)).off + 5, none⟩ = some (.int .u32 (rd_T54 xs i).f3) ∧ w.cell? ⟨(ad.add (i.toNat * 8)).block, (ad.add (i.toNat * 8)).off + 6, none⟩ = some (.int .u64 (rd_T54 xs i).f4) ∧ w.cell? ⟨(ad.add (i.toNat * 8)).block, (ad.add (i.toNat * 8)).off + 7, none⟩ = some (.string (rd_T54 xs i).f5) := by
  obtain ⟨ad, c, e, _, hK, hc0⟩ := Kd.C_get h z54 i h0 h1
  have hc : ∀ j u, c[j]? = some u → w.cell? (ad.add (i.toNat * 8 + j)) = some u := hc0
  obtain rfl := k54_open hK
  exact ⟨ad, e, hc 0 _ rfl, by rw [← add_field _ _ 1 (by omega)]; exact hc 1 _ rfl, by rw [← add_field _ _ 2 (by omega)]; exact hc 2 _ rfl, by rw [← add_field _ _ 3 (by omega)]; exact hc 3 _ rfl, by rw [← add_field _ _ 4 (by omega)]; exact hc 4 _ rfl, by rw [← add_field _ _ 5 (by omega)]; exact hc 5 _ rfl, by rw [← add_field _ _ 6 (by omega)]; exact hc 6 _ rfl, by rw [← add_field _ _ 7 (by omega)]; exact hc 7 _ rfl⟩

/-! #### struct type 56 -/
structure S56 where
  f0 : ByteArray
  f1 : S52
  f2 : Int
def z56 : S56 := ⟨(⟨#[]⟩ : ByteArray), z52, (0 : Int)⟩
def k56 : Kd S56 := Kd.iso (Kd.pair Kd.string (Kd.pair k52 (Kd.int .u8))) (fun x : S56 => (x.f0, x.f1, x.f2))
theorem k56_open {w : World} {x : S56} {cs : List Value} (h : k56.K w x cs) : cs = [.string x.f0, .int .u64 x.f1.f0, .int .u32 x.f1.f1, .int .u8 x.f1.f2, .int .u8 x.f2] := by
  obtain ⟨_, _, rfl, rfl, ⟨_, _, rfl, s1, rfl⟩⟩ := h
  obtain rfl := k52_open s1
  exact rfl
theorem k56_mk (w : World) (x : S56)  : k56.K w x [.string x.f0, .int .u64 x.f1.f0, .int .u32 x.f1.f1, .int .u8 x.f1.f2, .int .u8 x.f2] := ⟨[.string x.f0], [.int .u64 x.f1.f0, .int .u32 x.f1.f1, .int .u8 x.f1.f2, .int .u8 x.f2], rfl, rfl, ⟨[.int .u64 x.f1.f0, .int .u32 x.f1.f1, .int .u8 x.f1.f2], [.int .u8 x.f2], rfl, (k52_mk w x.f1 ), rfl⟩⟩
theorem k56_mkM (w : World) (base : Nat) (ok : Nat → Prop) (x : S56)  : k56.M w base ok x [.string x.f0, .int .u64 x.f1.f0, .int .u32 x.f1.f1, .int .u8 x.f1.f2, .int .u8 x.f2] := ⟨[.string x.f0], [.int .u64 x.f1.f0, .int .u32 x.f1.f1, .int .u8 x.f1.f2, .int .u8 x.f2], rfl, rfl, ⟨[.int .u64 x.f1.f0, .int .u32 x.f1.f1, .int .u8 x.f1.f2], [.int .u8 x.f2], rfl, (k52_mkM w base ok x.f1 ), rfl⟩⟩
def rd_T56 (xs : List S56) (i : Int) : S56 := xs.getD i.toNat z56
theorem at_T56 {w : World} {A : Option Addr} {n : Nat} {xs : List S56} (h : Kd.C k56 w A n xs) (i : Int) (h0 : 0 ≤ i) (h1 : i < n) : ∃ ad , A = some ad ∧ w.cell? (ad.add (i.toNat * 5)) = some (.string (rd_T56 xs i).f0) ∧ w.cell? ⟨(ad.add (i.toNat * 5)).block, (ad.add (i.toNat * 5)).off + 1, none⟩ = some (.int .u64 (rd_T56 xs i).f1.f0) ∧ w.cell? ⟨(ad.add (i.toNat * 5)).block, (ad.add (i.toNat * 5)).off + 2, none⟩ = some (.int .u32 (rd_T56 xs i).f1.f1) ∧ w.cell? ⟨(ad.add (i.toNat * 5)).block, (ad.add (i.toNat * 5)).off + 3, none⟩ = some (.int .u8 (rd_T56 xs i).f1.f2) ∧ w.cell? ⟨(ad.add (i.toNat * 5)).block, (ad.add (i.toNat * 5)).off + 4, none⟩ = some (.int .u8 (rd_T56 xs i).f2) := by
  obtain ⟨ad, c, e, _, hK, hc0⟩ := Kd.C_get h z56 i h0 h1
  have hc : ∀ j u, c[j]? = some u → w.cell? (ad.add (i.toNat * 5 + j)) = some u := hc0
  obtain rfl := k56_open hK
  exact ⟨ad, e, hc 0 _ rfl, by rw [← add_field _ _ 1 (by omega)]; exact hc 1 _ rfl, by rw [← add_field _ _ 2 (by omega)]; exact hc 2 _ rfl, by rw [← add_field _ _ 3 (by omega)]; exact hc 3 _ rfl, by rw [← add_field _ _ 4 (by omega)]; exact hc 4 _ rfl⟩

/-! #### struct type 70 -/
structure S70 where
  f0 : Int
  f1 : Int
def z70 : S70 := ⟨(0 : Int), (0 : Int)⟩
def k70 : Kd S70 := Kd.iso (Kd.pair (Kd.int .u8) (Kd.int .u32)) (fun x : S70 => (x.f0, x.f1))
theorem k70_open {w : World} {x : S70} {cs : List Value} (h : k70.K w x cs) : cs = [.int .u8 x.f0, .int .u32 x.f1] := by
  obtain ⟨_, _, rfl, rfl, rfl⟩ := h
  exact rfl
theorem k70_mk (w : World) (x : S70)  : k70.K w x [.int .u8 x.f0, .int .u32 x.f1] := ⟨[.int .u8 x.f0], [.int .u32 x.f1], rfl, rfl, rfl⟩
theorem k70_mkM (w : World) (base : Nat) (ok : Nat → Prop) (x : S70)  : k70.M w base ok x [.int .u8 x.f0, .int .u32 x.f1] := ⟨[.int .u8 x.f0], [.int .u32 x.f1], rfl, rfl, rfl⟩
/-! #### struct type 72 -/
structure S72 where
  f0 : Int
  f1 : S70
def z72 : S72 := ⟨(0 : Int), z70⟩
def k72 : Kd S72 := Kd.iso (Kd.pair (Kd.int .u8) k70) (fun x : S72 => (x.f0, x.f1))
theorem k72_open {w : World} {x : S72} {cs : List Value} (h : k72.K w x cs) : cs = [.int .u8 x.f0, .int .u8 x.f1.f0, .int .u32 x.f1.f1] := by
  obtain ⟨_, _, rfl, rfl, s1⟩ := h
  obtain rfl := k70_open s1
  exact rfl
theorem k72_mk (w : World) (x : S72)  : k72.K w x [.int .u8 x.f0, .int .u8 x.f1.f0, .int .u32 x.f1.f1] := ⟨[.int .u8 x.f0], [.int .u8 x.f1.f0, .int .u32 x.f1.f1], rfl, rfl, (k70_mk w x.f1 )⟩
theorem k72_mkM (w : World) (base : Nat) (ok : Nat → Prop) (x : S72)  : k72.M w base ok x [.int .u8 x.f0, .int .u8 x.f1.f0, .int .u32 x.f1.f1] := ⟨[.int .u8 x.f0], [.int .u8 x.f1.f0, .int .u32 x.f1.f1], rfl, rfl, (k70_mkM w base ok x.f1 )⟩
def rd_T72 (xs : List S72) (i : Int) : S72 := xs.getD i.toNat z72
theorem at_T72 {w : World} {A : Option Addr} {n : Nat} {xs : List S72} (h : Kd.C k72 w A n xs) (i : Int) (h0 : 0 ≤ i) (h1 : i < n) : ∃ ad , A = some ad ∧ w.cell? (ad.add (i.toNat * 3)) = some (.int .u8 (rd_T72 xs i).f0) ∧ w.cell? ⟨(ad.add (i.toNat * 3)).block, (ad.add (i.toNat * 3)).off + 1, none⟩ = some (.int .u8 (rd_T72 xs i).f1.f0) ∧ w.cell? ⟨(ad.add (i.toNat * 3)).block, (ad.add (i.toNat * 3)).off + 2, none⟩ = some (.int .u32 (rd_T72 xs i).f1.f1) := by
  obtain ⟨ad, c, e, _, hK, hc0⟩ := Kd.C_get h z72 i h0 h1
  have hc : ∀ j u, c[j]? = some u → w.cell? (ad.add (i.toNat * 3 + j)) = some u := hc0
  obtain rfl := k72_open hK
  exact ⟨ad, e, hc 0 _ rfl, by rw [← add_field _ _ 1 (by omega)]; exact hc 1 _ rfl, by rw [← add_field _ _ 2 (by omega)]; exact hc 2 _ rfl⟩

/-! #### struct type 46 -/
structure S46 where
  f0 : Int
  f1 : Int
  f2 : Int
  f3 : ByteArray
end Go.Proofs.Ytdjompbhlkgmbaa.PMsg
end
section
/- strings.Builder's copyCheck, WriteString and String, where the builder is embedded as a struct's only field (msg.writer): after the shelf's proofs of the Builder's forms _k (worked proofs turned to this program; own text). -/
namespace Go.Proofs.Ytdjompbhlkgmbaa.Msg
open Go.RowKit Go.Lib Go.Proofs.YtdjompbhlkgmbaaW.PrintWords
set_option linter.unusedVariables false
set_option linter.unusedSimpArgs false
/-! ### The builder -/
theorem sizeB : (Try.prog.info? 65).map (·.size) = some 2 := by kernel_rfl
theorem liesB : liesAt Try.prog Try.prog.depth 67 (2 / Try.prog.cellsOf 67) 0 65 1 = true := by kernel_rfl
theorem infoB : (Try.prog.info? 5).map (fun i => (i.zero, i.size, i.bytes)) = some (some (.int .u8 0), 1, 1) := by kernel_rfl
theorem cellsB : Try.prog.cellsOf 5 = 1 := by kernel_rfl
set_option maxRecDepth 100000 in
theorem check_used (b : Nat) (w : World) (h0 : w.cell? ⟨b, 0, none⟩ = some (.pointer (some ⟨b, 0, none⟩))) :
    Calls Try.prog 63 #[.pointer (some ⟨b, 0, none⟩)] w fun e w' => e = .returned (.tuple #[]) ∧ w' = w := by
  obtain ⟨j, hj, hjs⟩ := Option.map_eq_some_iff.1 sizeB
  go_enter Try.func63, Try.ntmps63
  go_wp2
  rw [Lib.run_neq_ptr_same w ⟨b, 0, none⟩ Try.underlying62 hj]
  simp only [Result.andThen]
  rw [Oper.upon_value]
  go_wp2
  go_end0
  exact ⟨rfl, rfl⟩
set_option maxRecDepth 100000 in
theorem check_fresh (b : Nat) (w : World) (h0 : w.cell? ⟨b, 0, none⟩ = some (.pointer none)) (hsh : w.shape? b = some (67, 2)) (hfz : w.frozen? ⟨b, 0, none⟩ = false) :
    Calls Try.prog 63 #[.pointer (some ⟨b, 0, none⟩)] w fun e w' => e = .returned (.tuple #[]) ∧ w' = w.setCell ⟨b, 0, none⟩ (.pointer (some ⟨b, 0, none⟩)) := by
  obtain ⟨j, hj, hjs⟩ := Option.map_eq_some_iff.1 sizeB
  go_enter Try.func63, Try.ntmps63
  go_wp2
  rw [Lib.run_to_unsafe w ⟨b, 0, none⟩ Try.underlying62 Try.underlying161 hj (by rw [hjs]; decide) hsh (Nat.zero_lt_succ 1)]
  simp only [Result.andThen]
  rw [Oper.upon_value]
  go_wp2
  rw [run_callFunc_extern Try.func80 (by kernel_rfl) (by kernel_rfl) (by kernel_rfl) (e := Extern.AbiNoEscape.same) (by kernel_rfl)]
  rw [Lib.run_noEscape]
  simp only [Result.andThen]
  rw [Oper.upon_value]
  go_wp2
  rw [Lib.run_from_unsafe w ⟨b, 0, none⟩ Try.underlying161 Try.underlying62 hj hsh liesB]
  simp only [Result.andThen]
  rw [Oper.upon_value]
  go_wp2
  go_end0
  exact ⟨rfl, rfl⟩
theorem check_k (B b : Nat) (bs : List Value) (w : World) (h : Lib.IsBuilderF 67 5 B b bs w) :
    Calls Try.prog 63 #[.pointer (some ⟨b, 0, none⟩)] w fun e w' => e = .returned (.tuple #[]) ∧ (Lib.BuilderAtF 67 5 B b (.pointer (some ⟨b, 0, none⟩)) bs w' ∧ Below B w w' ∧ Lib.OthersKept 5 (some b) w w') := by
  rcases h with h | h
  · refine (check_fresh b w h.cell0 h.shape h.frozen0).mono ?_
    rintro e w' ⟨rfl, rfl⟩
    exact ⟨rfl, h.used _, (Below.refl B w).setCell (p := ⟨b, 0, none⟩) h.1 _, (Lib.OthersKept.refl _ _ w).setCell ⟨b, 0, none⟩ rfl _⟩
  · refine (check_used b w h.cell0).mono ?_
    rintro e w' ⟨rfl, rfl⟩
    exact ⟨rfl, h, Below.refl B _, Lib.OthersKept.refl _ _ _⟩
set_option maxHeartbeats 2000000 in
set_option maxRecDepth 100000 in
theorem writes (B b : Nat) (bs : List Value) (s : ByteArray) (w : World) (h : Lib.IsBuilderF 67 5 B b bs w) (hlen : bs.length + s.size ≤ 140737488355328) (hBw : B ≤ w.heap.size) :
    Calls Try.prog 20 #[.pointer (some ⟨b, 0, none⟩), .string s] w fun e w' => e = .returned (.tuple #[.int .i64 s.size, .nilIface]) ∧ (Lib.IsBuilderF 67 5 B b (bs ++ Lib.strCells s) w' ∧ Below B w w' ∧ Lib.OthersKept 5 (some b) w w') := by
  obtain ⟨i0, hi, hz0, hz1, hz2⟩ := info_parts infoB
  have HC := Lib.hid (check_k B b bs w h)
  clear h
  go_enter Try.func20, Try.ntmps20
  go_wp2_with (go_at_call 63; refine HC.out.mono ?_)
  rintro e w1 ⟨rfl, h1, hb1, hk1⟩
  obtain ⟨hB, v, hbk, hown, hne⟩ := h1
  have c0 : w1.cell? ⟨b, 0, none⟩ = some (.pointer (some ⟨b, 0, none⟩)) := by rw [Lib.cell_of_heap hbk]; rfl
  have c1 : w1.cell? ⟨b, 1, none⟩ = some v := by rw [Lib.cell_of_heap hbk]; rfl
  go_wp2_with (at_builtin; refine Lib.wpList_append_own_stringF _ rfl _ _ 63 9 rfl B 5 i0 Try.underlying63 Try.underlying9 hi hz0 hz1 hz2 _ _ _ rfl hown s rfl ?c3 ?c4 ?c5 ?_)
  case c3 => unfold maxLen; omega
  case c4 => omega
  case c5 => have := hb1.size; omega
  intro v' w2 hown' hgrow _
  have hlt : b < w1.heap.size := by
    rcases Nat.lt_or_ge b w1.heap.size with h' | h'
    · exact h'
    · simp [Array.getElem?_eq_none h'] at hbk
  have hb2 : w2.heap[b]? = some (.cells #[.pointer (some ⟨b, 0, none⟩), v] 67 (0, 0)) := by
    rw [hgrow.block b hlt (fun e => hne e.symm)]
    exact hbk
  have d0 : w2.cell? ⟨b, 0, none⟩ = some (.pointer (some ⟨b, 0, none⟩)) := by rw [Lib.cell_of_heap hb2]; rfl
  have d1 : w2.cell? ⟨b, 1, none⟩ = some v := by rw [Lib.cell_of_heap hb2]; rfl
  have f1 : w2.frozen? ⟨b, 1, none⟩ = false := Lib.frozen_of_heap hb2 1
  obtain ⟨ao, n', cap, rfl⟩ : ∃ ao n' cap, v' = .slice ao n' cap := by
    rcases hown'.2 with ⟨hv, _⟩ | ⟨g, cap, cur, fz, hv, _⟩
    · exact ⟨_, _, _, hv⟩
    · exact ⟨_, _, _, hv⟩
  go_wp2
  go_ret2
  refine ⟨rfl, .inr ?_, ?_, (hk1.grown hgrow (Lib.ownsRowF_kind hown)).setCell ⟨b, 1, none⟩ rfl _⟩
  · exact Lib.BuilderAtF.put (T := 67) (e := 5) hB hb2 (bs' := bs ++ Lib.strCells s) (by simpa [Lib.strCells_length] using hown') (by decide)
  · exact (hb1.grown hgrow (by have := hb1.size; omega) (fun k hk => (hown.lt k hk).1)).setCell (p := ⟨b, 1, none⟩) hB _
set_option maxHeartbeats 2000000 in
set_option maxRecDepth 100000 in
theorem str_one (B b : Nat) (l : List UInt8) (w : World) (h : Lib.IsBuilderF 67 5 B b (Lib.byteCells l) w) (h0 : l ≠ []) :
    Calls Try.prog 24 #[.pointer (some ⟨b, 0, none⟩)] w fun e w' => e = .returned (.string ⟨l.toArray⟩) ∧ Below B w w' ∧ Lib.OthersKept 5 (some b) w w' := by
  obtain ⟨p, hAt⟩ : ∃ p, Lib.BuilderAtF 67 5 B b p (Lib.byteCells l) w := by
    rcases h with h | h
    · exact ⟨_, h⟩
    · exact ⟨_, h⟩
  obtain ⟨hB, v, hbk, hown, hne⟩ := hAt
  have hl0 : l.length ≠ 0 := by simpa using h0
  rw [Lib.byteCells_length] at hown
  obtain ⟨g, cap, cur, fz, rfl, hbg, hg, hfz, hnc, hcm, hcs, htake⟩ : ∃ g cap cur fz, v = .slice (some ⟨g, 0, none⟩) l.length cap ∧ B ≤ g ∧ w.heap[g]? = some (.cells cur 5 fz) ∧ fz.2 ≤ l.length * 1 ∧ l.length ≤ cap ∧ cap ≤ maxLen ∧ cur.size = cap * 1 ∧ cur.toList.take (l.length * 1) = Lib.byteCells l := by
    rcases hown.2 with ⟨_, hz⟩ | ⟨g, cap, cur, fz, hv, r⟩
    · exact absurd hz hl0
    · exact ⟨g, cap, cur, fz, hv, r⟩
  have c1 : w.drew.cell? ⟨b, 1, none⟩ = some (.slice (some ⟨g, 0, none⟩) l.length cap) := by
    have : w.drew.heap[b]? = some (.cells #[p, .slice (some ⟨g, 0, none⟩) l.length cap] 67 (0, 0)) := hbk
    rw [Lib.cell_of_heap this]; rfl
  have hSD : (Builtin.unsafeSliceData_ #[63] 131 #[.slice (some ⟨g, 0, none⟩) l.length cap]).run Try.prog w.drew = .ok (.pointer (some ⟨g, 0, none⟩)) w.drew :=
    Lib.run_unsafeSliceData_row _ _ _ _ _ _ (by omega)
  have hUS : (Builtin.unsafeString_ #[131, 3] 9 #[.pointer (some ⟨g, 0, none⟩), .int .i64 l.length]).run Try.prog w.drew = .ok (.string ⟨l.toArray⟩) (w.drew.freeze ⟨g, 0, none⟩ l.length) := by
    refine Lib.run_unsafeString_row w.drew 131 3 9 5 Try.underlying131 cellsB g cur.size (by have hg' : w.drew.heap[g]? = some (.cells cur 5 fz) := hg; simp [World.shape?, hg']) l h0 (by omega) (by unfold maxLen at hcm; omega) ?_
    intro j x hx
    exact hown.cells (g := g) rfl j (.int .u8 x.toNat) (by simp [Lib.byteCells, hx])
  have hb0 : w.drew.heap[g]? = some (.cells cur 5 fz) := hg
  have mixed : Try.prog.follows Departure.mixedOrders = true := by kernel_rfl
  go_enter Try.func24, Try.ntmps24
  go_wp2
  go_region_o
  all_goals (go_wp2; go_ret; exact ⟨rfl, Lib.below_freeze (Below.drew (Below.refl B w)) (p := ⟨g, 0, none⟩) hbg _, (Lib.OthersKept.refl _ _ w).drew.freeze ⟨g, 0, none⟩ _ ⟨cur, fz, hb0⟩⟩)
theorem build_below {B b : Nat} {bs : List Value} {w w' : World} (h : Lib.IsBuilderF 67 5 B b bs w) (hb : Below w.heap.size w w') : Lib.IsBuilderF 67 5 B b bs w' := by
  have key : ∀ p, Lib.BuilderAtF 67 5 B b p bs w → Lib.BuilderAtF 67 5 B b p bs w' := by
    rintro p ⟨h1, v, h2, h3, h4⟩
    refine ⟨h1, v, (hb.block b ?_).trans h2, h3.kept (grown_of_below hb none) ?_, h4⟩
    · exact (Array.getElem?_eq_some_iff.1 h2).1
    · cases hv : v.ownBlock with
      | none => exact .inl rfl
      | some k => exact .inr (by simp)
  exact h.imp (key _) (key _)
end Go.Proofs.Ytdjompbhlkgmbaa.Msg
end
section
/- What the given program's num.Get comes to: contracts over the number form (own text). -/
namespace Go.Proofs.Ytdjompbhlkgmbaa.Num
open Go.RowKit
set_option linter.unusedVariables false
set_option linter.unusedSimpArgs false

/-- The byte of a text at a place, as a whole number. -/
def byt (s : ByteArray) (i : Int) : Int := if h : i.toNat < s.size then ((s[i.toNat]'h).toNat : Int) else 0
theorem byt_at (s : ByteArray) (i : Int) : ∀ (h : i.toNat < s.size), ((s[i.toNat]'h).toNat : Int) = byt s i := fun h => by unfold byt; rw [dif_pos h]
theorem byt_range (s : ByteArray) (i : Int) : 0 ≤ byt s i ∧ byt s i < 256 := by
  unfold byt
  split
  · rename_i h
    have := (s[i.toNat]'h).toNat_lt
    omega
  · omega
/-- The number so far, behind i bytes more. -/
def nval (s : ByteArray) (a : Int) : Nat → Int
  | 0 => byt s a % 64
  | i + 1 => nval s a i * 256 + byt s (a + ((i : Int) + 1))
theorem nval_pos (s : ByteArray) (a : Int) (i : Nat) : 0 ≤ nval s a i := by
  induction i with
  | zero => simp only [nval]; omega
  | succ i ih => have := byt_range s (a + ((i : Int) + 1)); simp only [nval]; omega
theorem nval_step (s : ByteArray) (a : Int) (i : Nat) : nval s a (i + 1) = nval s a i * 256 + byt s (a + ((i : Int) + 1)) := rfl
theorem nval_lt (s : ByteArray) (a : Int) (i : Nat) : nval s a i < 64 * 256 ^ i := by
  induction i with
  | zero => simp only [nval]; omega
  | succ i ih => have := byt_range s (a + ((i : Int) + 1)); simp only [nval, Int.pow_succ]; omega
theorem nval_max (s : ByteArray) (a : Int) (i : Nat) (h : i ≤ 7) : nval s a i < 4611686018427387904 := by
  have h1 := nval_lt s a i
  have h2 : (64 * 256 ^ i : Int) ≤ 64 * 256 ^ 7 := by
    have : (256 ^ i : Nat) ≤ 256 ^ 7 := Nat.pow_le_pow_right (by decide) h
    have h3 : ((256 ^ i : Nat) : Int) ≤ ((256 ^ 7 : Nat) : Int) := by exact_mod_cast this
    simp only [Int.natCast_pow] at h3
    have h4 : ((256 : Nat) : Int) = 256 := rfl
    rw [h4] at h3
    omega
  have h5 : (64 * 256 ^ 7 : Int) = 4611686018427387904 := by decide
  omega
theorem p64 : ((2 : Int) ^ 64) = 18446744073709551616 := by decide
theorem or_byte (x y : Int) (hx : 0 ≤ x) (hx1 : x < 18014398509481984) (hy : 0 ≤ y) (hy1 : y < 256) :
    bits .or .u64 (IntKind.u64.wrap (x * 256)) (IntKind.u64.wrap y) = x * 256 + y := by
  rw [IntWalk.u64_in _ ⟨by omega, by omega⟩, IntWalk.u64_in _ ⟨by omega, by omega⟩]
  have hk : ∀ n : Int, 0 ≤ n → n < 2 ^ 64 → IntKind.u64.wrap n = n := fun n h0 h1 => by
    rw [p64] at h1
    exact IntWalk.u64_in n ⟨h0, by omega⟩
  exact bits_join .u64 64 (by decide) hk 8 _ _ (by omega) (by omega) (by rw [p64]; omega) hy (by omega) (by rw [p64]; omega)
theorem nval_or (s : ByteArray) (a : Int) (i : Nat) (hi : i < 7) (hlt : (a + ((i : Int) + 1)).toNat < s.size) :
    bits .or .u64 (IntKind.u64.wrap (nval s a i * 256)) (IntKind.u64.wrap ((s[(a + ((i : Int) + 1)).toNat]'hlt).toNat : Int)) = nval s a (i + 1) := by
  rw [byt_at s _ hlt]
  have h1 := nval_pos s a i
  have h2 := nval_lt s a i
  have h3 := byt_range s (a + ((i : Int) + 1))
  have h4 : nval s a i < 18014398509481984 := by
    have h5 := nval_max s a (i + 1) (by omega)
    rw [nval_step] at h5
    omega
  rw [or_byte _ _ h1 h4 h3.1 h3.2, nval_step]
/-- The least number of a form. -/
def least (c : Int) : Int := if c = 1 then 64 else if c = 2 then 16384 else if c = 3 then 1073741824 else 0
/-- How many bytes a form has. -/
def wide (c : Int) : Nat := if c = 1 then 2 else if c = 2 then 4 else if c = 3 then 8 else 1
/-- A number that was read whole: in its own form, or not. -/
def whole (n lim a w : Int) : Int × Int × Int := if n < lim then (0, 0, 3) else (n, a + w, 0)
theorem whole_lo {n lim a w : Int} (h : n < lim) : whole n lim a w = (0, 0, 3) := if_pos h
theorem whole_hi {n lim a w : Int} (h : ¬ n < lim) : whole n lim a w = (n, a + w, 0) := if_neg h
/-- What Get tells: the number, the place behind it, the error's number. -/
def getS (s : ByteArray) (a : Int) : Int × Int × Int :=
  if a < 0 ∨ a > s.size then (0, 0, 1) else if a = s.size then (0, 0, 2)
  else if (s.size : Int) - a < wide (byt s a / 64) then (0, 0, 2)
  else whole (nval s a (wide (byt s a / 64) - 1)) (least (byt s a / 64)) a (wide (byt s a / 64))
/-- The same, as the machine hands it over. -/
def getV (r : Int × Int × Int) : Value := .tuple #[.int .u64 r.1, .int .i64 r.2.1, .int .i64 r.2.2]

set_option maxHeartbeats 400000 in
theorem get_out (s : ByteArray) (a : Int) (w : World) (_hs : s.size ≤ maxLen) (h : a < 0 ∨ a > s.size) :
    Calls Try.prog 73 #[.string s, .int .i64 a] w fun e w' => e = .returned (getV (0, 0, 1)) ∧ ∃ n, w' = w.drewN n := by
  by_cases h1 : a < 0
  · have h1 : decide (a < 0) = true := by simpa using h1
    go_enter Try.func73, Try.ntmps73
    go_wp2
    go_ret3
    exact ⟨rfl, 0, rfl⟩
  · have h1 : decide (a < 0) = false := by simpa using h1
    have h2 : decide ((s.size : Int) < a) = true := by simp; omega
    go_enter Try.func73, Try.ntmps73
    go_wp2
    go_ret3
    exact ⟨rfl, 0, rfl⟩
set_option maxHeartbeats 400000 in
theorem get_end (s : ByteArray) (w : World) :
    Calls Try.prog 73 #[.string s, .int .i64 s.size] w fun e w' => e = .returned (getV (0, 0, 2)) ∧ ∃ n, w' = w.drewN n := by
  have h1 : decide ((s.size : Int) < 0) = false := by simp
  have h2 : decide ((s.size : Int) < s.size) = false := by simp
  go_enter Try.func73, Try.ntmps73
  go_wp2
  go_ret3
  exact ⟨rfl, 0, rfl⟩

set_option maxHeartbeats 400000 in
theorem get_full0 (s : ByteArray) (a : Int) (w : World) (hs : s.size ≤ maxLen) (h0 : 0 ≤ a) (h1 : a + 1 ≤ s.size) (hb : byt s a / 64 = 0) :
    Calls Try.prog 73 #[.string s, .int .i64 a] w fun e w' => e = .returned (getV (whole (nval s a 0) 0 a 1)) ∧ ∃ n, w' = w.drewN n := by
  unfold maxLen at hs
  have c1 : decide (a < 0) = false := by simp; omega
  have c2 : decide (a > (s.size : Int)) = false := by simp; omega
  have c3 : (a == (s.size : Int)) = false := by simp; omega
  have hx := byt_at s a
  have hr := byt_range s a
  have hlt : a < (s.size : Int) := by omega
  have c4 : decide ((s.size : Int) - a < 1) = false := by simp; omega
  have hp := nval_pos s a 0
  go_enter Try.func73, Try.ntmps73
  go_wp2
  clear hx c1 c2 c3 c4
  go_loop [8, 9] (fun n i => ∃ k : Nat, k < 1 ∧ i = .int .i64 (k + 1 : Nat) ∧ n = .int .u64 (nval s a k)) (fun _ i => 1 - (intOf i).toNat)
  case atStart => exact ⟨0, by omega, rfl, rfl⟩
  case round =>
    obtain ⟨k, hk, rfl, rfl⟩ := hrel
    by_cases hlt : k + 1 < 1
    · have c5 : decide (((k + 1 : Nat) : Int) < 1) = true := by simp; omega
      omega


    · obtain rfl : k = 0 := by omega
      by_cases hl : nval s a 0 < 0
      · omega
      · go_wp2
        go_quiet (fail)
        go_wp2
        go_ret3
        exact ⟨by rw [whole_hi (by omega)]; rfl, _, rfl⟩

set_option maxHeartbeats 400000 in
theorem get_short1 (s : ByteArray) (a : Int) (w : World) (hs : s.size ≤ maxLen) (h0 : 0 ≤ a) (h1 : a < s.size) (h2 : (s.size : Int) - a < 2) (hb : byt s a / 64 = 1) :
    Calls Try.prog 73 #[.string s, .int .i64 a] w fun e w' => e = .returned (getV (0, 0, 2)) ∧ ∃ n, w' = w.drewN n := by
  unfold maxLen at hs
  have c1 : decide (a < 0) = false := by simp; omega
  have c2 : decide (a > (s.size : Int)) = false := by simp; omega
  have c3 : (a == (s.size : Int)) = false := by simp; omega
  have hx := byt_at s a
  have hr := byt_range s a
  have hlt : a < (s.size : Int) := by omega
  have c4 : decide ((s.size : Int) - a < 2) = true := by simp; omega
  go_enter Try.func73, Try.ntmps73
  go_wp2
  go_ret3
  exact ⟨rfl, 0, rfl⟩

set_option maxHeartbeats 400000 in
theorem get_full1 (s : ByteArray) (a : Int) (w : World) (hs : s.size ≤ maxLen) (h0 : 0 ≤ a) (h1 : a + 2 ≤ s.size) (hb : byt s a / 64 = 1) :
    Calls Try.prog 73 #[.string s, .int .i64 a] w fun e w' => e = .returned (getV (whole (nval s a 1) 64 a 2)) ∧ ∃ n, w' = w.drewN n := by
  unfold maxLen at hs
  have c1 : decide (a < 0) = false := by simp; omega
  have c2 : decide (a > (s.size : Int)) = false := by simp; omega
  have c3 : (a == (s.size : Int)) = false := by simp; omega
  have hx := byt_at s a
  have hr := byt_range s a
  have hlt : a < (s.size : Int) := by omega
  have c4 : decide ((s.size : Int) - a < 2) = false := by simp; omega
  have hp := nval_pos s a 1
  go_enter Try.func73, Try.ntmps73
  go_wp2
  clear hx c1 c2 c3 c4
  go_loop [8, 9] (fun n i => ∃ k : Nat, k < 2 ∧ i = .int .i64 (k + 1 : Nat) ∧ n = .int .u64 (nval s a k)) (fun _ i => 2 - (intOf i).toNat)
  case atStart => exact ⟨0, by omega, rfl, rfl⟩
  case round =>
    obtain ⟨k, hk, rfl, rfl⟩ := hrel
    by_cases hlt : k + 1 < 2
    · have c5 : decide (((k + 1 : Nat) : Int) < 2) = true := by simp; omega
      go_wp2
      go_round
      case rel => exact ⟨k + 1, by omega, by go_num, by rw [nval_or s a k (by omega)]⟩
      case measure => simp [intOf]; omega
    · obtain rfl : k = 1 := by omega
      by_cases hl : nval s a 1 < 64
      · go_wp2
        go_ret3
        exact ⟨by rw [whole_lo hl]; rfl, 0, rfl⟩
      · go_wp2
        go_quiet (fail)
        go_wp2
        go_ret3
        exact ⟨by rw [whole_hi (by omega)]; rfl, _, rfl⟩

set_option maxHeartbeats 400000 in
theorem get_short2 (s : ByteArray) (a : Int) (w : World) (hs : s.size ≤ maxLen) (h0 : 0 ≤ a) (h1 : a < s.size) (h2 : (s.size : Int) - a < 4) (hb : byt s a / 64 = 2) :
    Calls Try.prog 73 #[.string s, .int .i64 a] w fun e w' => e = .returned (getV (0, 0, 2)) ∧ ∃ n, w' = w.drewN n := by
  unfold maxLen at hs
  have c1 : decide (a < 0) = false := by simp; omega
  have c2 : decide (a > (s.size : Int)) = false := by simp; omega
  have c3 : (a == (s.size : Int)) = false := by simp; omega
  have hx := byt_at s a
  have hr := byt_range s a
  have hlt : a < (s.size : Int) := by omega
  have c4 : decide ((s.size : Int) - a < 4) = true := by simp; omega
  go_enter Try.func73, Try.ntmps73
  go_wp2
  go_ret3
  exact ⟨rfl, 0, rfl⟩

set_option maxHeartbeats 400000 in
theorem get_full2 (s : ByteArray) (a : Int) (w : World) (hs : s.size ≤ maxLen) (h0 : 0 ≤ a) (h1 : a + 4 ≤ s.size) (hb : byt s a / 64 = 2) :
    Calls Try.prog 73 #[.string s, .int .i64 a] w fun e w' => e = .returned (getV (whole (nval s a 3) 16384 a 4)) ∧ ∃ n, w' = w.drewN n := by
  unfold maxLen at hs
  have c1 : decide (a < 0) = false := by simp; omega
  have c2 : decide (a > (s.size : Int)) = false := by simp; omega
  have c3 : (a == (s.size : Int)) = false := by simp; omega
  have hx := byt_at s a
  have hr := byt_range s a
  have hlt : a < (s.size : Int) := by omega
  have c4 : decide ((s.size : Int) - a < 4) = false := by simp; omega
  have hp := nval_pos s a 3
  go_enter Try.func73, Try.ntmps73
  go_wp2
  clear hx c1 c2 c3 c4
  go_loop [8, 9] (fun n i => ∃ k : Nat, k < 4 ∧ i = .int .i64 (k + 1 : Nat) ∧ n = .int .u64 (nval s a k)) (fun _ i => 4 - (intOf i).toNat)
  case atStart => exact ⟨0, by omega, rfl, rfl⟩
  case round =>
    obtain ⟨k, hk, rfl, rfl⟩ := hrel
    by_cases hlt : k + 1 < 4
    · have c5 : decide (((k + 1 : Nat) : Int) < 4) = true := by simp; omega
      go_wp2
      go_round
      case rel => exact ⟨k + 1, by omega, by go_num, by rw [nval_or s a k (by omega)]⟩
      case measure => simp [intOf]; omega
    · obtain rfl : k = 3 := by omega
      by_cases hl : nval s a 3 < 16384
      · go_wp2
        go_ret3
        exact ⟨by rw [whole_lo hl]; rfl, 0, rfl⟩
      · go_wp2
        go_quiet (fail)
        go_wp2
        go_ret3
        exact ⟨by rw [whole_hi (by omega)]; rfl, _, rfl⟩

set_option maxHeartbeats 400000 in
theorem get_short3 (s : ByteArray) (a : Int) (w : World) (hs : s.size ≤ maxLen) (h0 : 0 ≤ a) (h1 : a < s.size) (h2 : (s.size : Int) - a < 8) (hb : byt s a / 64 = 3) :
    Calls Try.prog 73 #[.string s, .int .i64 a] w fun e w' => e = .returned (getV (0, 0, 2)) ∧ ∃ n, w' = w.drewN n := by
  unfold maxLen at hs
  have c1 : decide (a < 0) = false := by simp; omega
  have c2 : decide (a > (s.size : Int)) = false := by simp; omega
  have c3 : (a == (s.size : Int)) = false := by simp; omega
  have hx := byt_at s a
  have hr := byt_range s a
  have hlt : a < (s.size : Int) := by omega
  have c4 : decide ((s.size : Int) - a < 8) = true := by simp; omega
  go_enter Try.func73, Try.ntmps73
  go_wp2
  go_ret3
  exact ⟨rfl, 0, rfl⟩

set_option maxHeartbeats 400000 in
theorem get_full3 (s : ByteArray) (a : Int) (w : World) (hs : s.size ≤ maxLen) (h0 : 0 ≤ a) (h1 : a + 8 ≤ s.size) (hb : byt s a / 64 = 3) :
    Calls Try.prog 73 #[.string s, .int .i64 a] w fun e w' => e = .returned (getV (whole (nval s a 7) 1073741824 a 8)) ∧ ∃ n, w' = w.drewN n := by
  unfold maxLen at hs
  have c1 : decide (a < 0) = false := by simp; omega
  have c2 : decide (a > (s.size : Int)) = false := by simp; omega
  have c3 : (a == (s.size : Int)) = false := by simp; omega
  have hx := byt_at s a
  have hr := byt_range s a
  have hlt : a < (s.size : Int) := by omega
  have c4 : decide ((s.size : Int) - a < 8) = false := by simp; omega
  have hp := nval_pos s a 7
  go_enter Try.func73, Try.ntmps73
  go_wp2
  clear hx c1 c2 c3 c4
  go_loop [8, 9] (fun n i => ∃ k : Nat, k < 8 ∧ i = .int .i64 (k + 1 : Nat) ∧ n = .int .u64 (nval s a k)) (fun _ i => 8 - (intOf i).toNat)
  case atStart => exact ⟨0, by omega, rfl, rfl⟩
  case round =>
    obtain ⟨k, hk, rfl, rfl⟩ := hrel
    by_cases hlt : k + 1 < 8
    · have c5 : decide (((k + 1 : Nat) : Int) < 8) = true := by simp; omega
      go_wp2
      go_round
      case rel => exact ⟨k + 1, by omega, by go_num, by rw [nval_or s a k (by omega)]⟩
      case measure => simp [intOf]; omega
    · obtain rfl : k = 7 := by omega
      by_cases hl : nval s a 7 < 1073741824
      · go_wp2
        go_ret3
        exact ⟨by rw [whole_lo hl]; rfl, 0, rfl⟩
      · go_wp2
        go_quiet (fail)
        go_wp2
        go_ret3
        exact ⟨by rw [whole_hi (by omega)]; rfl, _, rfl⟩

theorem get_any (s : ByteArray) (a : Int) (w : World) (hs : s.size ≤ maxLen) :
    Calls Try.prog 73 #[.string s, .int .i64 a] w fun e w' => e = .returned (getV (getS s a)) ∧ ∃ n, w' = w.drewN n := by
  unfold getS
  by_cases h : a < 0 ∨ a > s.size
  · rw [if_pos h]; exact get_out s a w hs h
  rw [if_neg h]
  by_cases h1 : a = s.size
  · rw [if_pos h1]; subst h1; exact get_end s w
  rw [if_neg h1]
  have hr := byt_range s a
  have hc : byt s a / 64 = 0 ∨ byt s a / 64 = 1 ∨ byt s a / 64 = 2 ∨ byt s a / 64 = 3 := by omega
  rcases hc with hc | hc | hc | hc
  · rw [hc]
    have e1 : wide 0 = 1 := rfl
    have e2 : least 0 = 0 := rfl
    rw [e1, e2]
    by_cases h2 : (s.size : Int) - a < ((1 : Nat) : Int)
    · rw [if_pos h2]; omega
    · rw [if_neg h2]; exact get_full0 s a w hs (by omega) (by omega) hc
  · rw [hc]
    have e1 : wide 1 = 2 := rfl
    have e2 : least 1 = 64 := rfl
    rw [e1, e2]
    by_cases h2 : (s.size : Int) - a < ((2 : Nat) : Int)
    · rw [if_pos h2]; exact get_short1 s a w hs (by omega) (by omega) h2 hc
    · rw [if_neg h2]; exact get_full1 s a w hs (by omega) (by omega) hc
  · rw [hc]
    have e1 : wide 2 = 4 := rfl
    have e2 : least 2 = 16384 := rfl
    rw [e1, e2]
    by_cases h2 : (s.size : Int) - a < ((4 : Nat) : Int)
    · rw [if_pos h2]; exact get_short2 s a w hs (by omega) (by omega) h2 hc
    · rw [if_neg h2]; exact get_full2 s a w hs (by omega) (by omega) hc
  · rw [hc]
    have e1 : wide 3 = 8 := rfl
    have e2 : least 3 = 1073741824 := rfl
    rw [e1, e2]
    by_cases h2 : (s.size : Int) - a < ((8 : Nat) : Int)
    · rw [if_pos h2]; exact get_short3 s a w hs (by omega) (by omega) h2 hc
    · rw [if_neg h2]; exact get_full3 s a w hs (by omega) (by omega) hc

end Go.Proofs.Ytdjompbhlkgmbaa.Num
end
section
/- What the given program's num.Put comes to (own text). -/
namespace Go.Proofs.Ytdjompbhlkgmbaa.Num
open Go.RowKit
set_option linter.unusedVariables false
set_option linter.unusedSimpArgs false

theorem conv_new (w : World) (xs : List Int) : (convert 63 9 (.slice (some ⟨w.heap.size, 0, none⟩) xs.length xs.length)).run Try.prog (w.alloc (.cells (xs.map (Value.int .u8)).toArray 5)) = .ok (.string (strOfNums xs)) (w.alloc (.cells (xs.map (Value.int .u8)).toArray 5)) :=
  run_convert_bytes_arg _ _ 5 Try.underlying63 Try.underlying5 w.heap.size 0 xs.length xs.length xs rfl (fun i hi => by
    rw [World.cell?_alloc_new]
    simp [List.getD_eq_getElem?_getD, List.getElem?_eq_getElem hi]) _ Try.underlying9
theorem or_mark (x m : Int) (h0 : 0 ≤ x) (h1 : x < 64) (hm : m = 0 ∨ m = 64 ∨ m = 128 ∨ m = 192) : bits .or .u8 x m = m + x := by
  obtain ⟨a, rfl⟩ := Int.eq_ofNat_of_zero_le h0
  obtain ⟨b, rfl⟩ := Int.eq_ofNat_of_zero_le (show 0 ≤ m by omega)
  have e1 := (bits_nat .u8 8 (by decide) wraps_u8 a b (by omega) (by omega)).2
  have e2 := (bits_nat .u8 8 (by decide) wraps_u8 b a (by omega) (by omega)).2
  have e3 := bits_join .u8 8 (by decide) wraps_u8 6 b a (by omega) (by omega) (by omega) (by omega) (by omega) (by omega)
  rw [e1, Nat.or_comm, ← e2, e3]

set_option maxRecDepth 100000 in
set_option maxHeartbeats 800000 in
theorem put0 (n : Int) (w : World) (h0 : 0 ≤ n) (h1 : n < 64) :
    Calls Try.prog 62 #[.int .u64 n] w fun e w' => e = .returned (.tuple #[.string (strOfNums [n]), .int .i64 0]) ∧ Below w.heap.size w w' := by
  have c1 : decide (4611686018427387904 ≤ n) = false := by simp; omega
  have t0 : decide (64 ≤ n) = false := by simp; omega
  have hmk : ∀ w, (Instr.makeSlice 63 (.int .i64 1) (.int .i64 1)).run Try.prog w = .ok (.slice (some ⟨w.heap.size, 0, none⟩) 1 1) (w.alloc (.cells #[.int .u8 0] 5)) := fun _ => by kernel_rfl
  have hcv : ∀ (x0 : Int), (convert 63 9 (.slice (some ⟨w.heap.size, 0, none⟩) 1 1)).run Try.prog (w.alloc (.cells #[.int .u8 x0] 5)) = .ok (.string (strOfNums [x0])) (w.alloc (.cells #[.int .u8 x0] 5)) := fun x0 => conv_new w [x0]
  go_enter Try.func62, Try.ntmps62
  go_wp2
  go_rounds 1
  go_wp2
  go_rounds 2
  go_wp2
  go_ret2
  exact ⟨by rw [or_mark _ _ (by omega) (by omega) (by simp)]; rw [Int.zero_add]; rfl, (Below.refl _ _).alloc (Nat.le_refl _) _⟩

set_option maxRecDepth 100000 in
set_option maxHeartbeats 800000 in
theorem put1 (n : Int) (w : World) (h0 : 64 ≤ n) (h1 : n < 16384) :
    Calls Try.prog 62 #[.int .u64 n] w fun e w' => e = .returned (.tuple #[.string (strOfNums [64 + (n / 256), n % 256]), .int .i64 0]) ∧ Below w.heap.size w w' := by
  have c1 : decide (4611686018427387904 ≤ n) = false := by simp; omega
  have t0 : decide (64 ≤ n) = true := by simp; omega
  have t1 : decide (16384 ≤ n) = false := by simp; omega
  have hmk : ∀ w, (Instr.makeSlice 63 (.int .i64 2) (.int .i64 2)).run Try.prog w = .ok (.slice (some ⟨w.heap.size, 0, none⟩) 2 2) (w.alloc (.cells #[.int .u8 0, .int .u8 0] 5)) := fun _ => by kernel_rfl
  have hcv : ∀ (x0 x1 : Int), (convert 63 9 (.slice (some ⟨w.heap.size, 0, none⟩) 2 2)).run Try.prog (w.alloc (.cells #[.int .u8 x0, .int .u8 x1] 5)) = .ok (.string (strOfNums [x0, x1])) (w.alloc (.cells #[.int .u8 x0, .int .u8 x1] 5)) := fun x0 x1 => conv_new w [x0, x1]
  go_enter Try.func62, Try.ntmps62
  go_wp2
  go_rounds 2
  go_wp2
  go_rounds 3
  go_wp2
  go_ret2
  exact ⟨by rw [or_mark _ _ (by omega) (by omega) (by simp)]; rfl, (Below.refl _ _).alloc (Nat.le_refl _) _⟩

set_option maxRecDepth 100000 in
set_option maxHeartbeats 800000 in
theorem put2 (n : Int) (w : World) (h0 : 16384 ≤ n) (h1 : n < 1073741824) :
    Calls Try.prog 62 #[.int .u64 n] w fun e w' => e = .returned (.tuple #[.string (strOfNums [128 + (((n / 256) / 256) / 256), ((n / 256) / 256) % 256, (n / 256) % 256, n % 256]), .int .i64 0]) ∧ Below w.heap.size w w' := by
  have c1 : decide (4611686018427387904 ≤ n) = false := by simp; omega
  have t0 : decide (64 ≤ n) = true := by simp; omega
  have t1 : decide (16384 ≤ n) = true := by simp; omega
  have t2 : decide (1073741824 ≤ n) = false := by simp; omega
  have hmk : ∀ w, (Instr.makeSlice 63 (.int .i64 4) (.int .i64 4)).run Try.prog w = .ok (.slice (some ⟨w.heap.size, 0, none⟩) 4 4) (w.alloc (.cells #[.int .u8 0, .int .u8 0, .int .u8 0, .int .u8 0] 5)) := fun _ => by kernel_rfl
  have hcv : ∀ (x0 x1 x2 x3 : Int), (convert 63 9 (.slice (some ⟨w.heap.size, 0, none⟩) 4 4)).run Try.prog (w.alloc (.cells #[.int .u8 x0, .int .u8 x1, .int .u8 x2, .int .u8 x3] 5)) = .ok (.string (strOfNums [x0, x1, x2, x3])) (w.alloc (.cells #[.int .u8 x0, .int .u8 x1, .int .u8 x2, .int .u8 x3] 5)) := fun x0 x1 x2 x3 => conv_new w [x0, x1, x2, x3]
  go_enter Try.func62, Try.ntmps62
  go_wp2
  go_rounds 3
  go_wp2
  go_rounds 5
  go_wp2
  go_ret2
  exact ⟨by rw [or_mark _ _ (by omega) (by omega) (by simp)]; rfl, (Below.refl _ _).alloc (Nat.le_refl _) _⟩

set_option maxRecDepth 100000 in
set_option maxHeartbeats 800000 in
theorem put3 (n : Int) (w : World) (h0 : 1073741824 ≤ n) (h1 : n < 4611686018427387904) :
    Calls Try.prog 62 #[.int .u64 n] w fun e w' => e = .returned (.tuple #[.string (strOfNums [192 + (((((((n / 256) / 256) / 256) / 256) / 256) / 256) / 256), ((((((n / 256) / 256) / 256) / 256) / 256) / 256) % 256, (((((n / 256) / 256) / 256) / 256) / 256) % 256, ((((n / 256) / 256) / 256) / 256) % 256, (((n / 256) / 256) / 256) % 256, ((n / 256) / 256) % 256, (n / 256) % 256, n % 256]), .int .i64 0]) ∧ Below w.heap.size w w' := by
  have c1 : decide (4611686018427387904 ≤ n) = false := by simp; omega
  have t0 : decide (64 ≤ n) = true := by simp; omega
  have t1 : decide (16384 ≤ n) = true := by simp; omega
  have t2 : decide (1073741824 ≤ n) = true := by simp; omega
  have hmk : ∀ w, (Instr.makeSlice 63 (.int .i64 8) (.int .i64 8)).run Try.prog w = .ok (.slice (some ⟨w.heap.size, 0, none⟩) 8 8) (w.alloc (.cells #[.int .u8 0, .int .u8 0, .int .u8 0, .int .u8 0, .int .u8 0, .int .u8 0, .int .u8 0, .int .u8 0] 5)) := fun _ => by kernel_rfl
  have hcv : ∀ (x0 x1 x2 x3 x4 x5 x6 x7 : Int), (convert 63 9 (.slice (some ⟨w.heap.size, 0, none⟩) 8 8)).run Try.prog (w.alloc (.cells #[.int .u8 x0, .int .u8 x1, .int .u8 x2, .int .u8 x3, .int .u8 x4, .int .u8 x5, .int .u8 x6, .int .u8 x7] 5)) = .ok (.string (strOfNums [x0, x1, x2, x3, x4, x5, x6, x7])) (w.alloc (.cells #[.int .u8 x0, .int .u8 x1, .int .u8 x2, .int .u8 x3, .int .u8 x4, .int .u8 x5, .int .u8 x6, .int .u8 x7] 5)) := fun x0 x1 x2 x3 x4 x5 x6 x7 => conv_new w [x0, x1, x2, x3, x4, x5, x6, x7]
  go_enter Try.func62, Try.ntmps62
  go_wp2
  go_rounds 4
  go_wp2
  go_rounds 9
  go_wp2
  go_ret2
  exact ⟨by rw [or_mark _ _ (by omega) (by omega) (by simp)]; rfl, (Below.refl _ _).alloc (Nat.le_refl _) _⟩

end Go.Proofs.Ytdjompbhlkgmbaa.Num
end
section
/- What the reference's Put comes to: the same bytes as num.Put (own text). -/
namespace Go.Proofs.Ytdjompbhlkgmbaa.Num
open Go.RowKit Go.Proofs.YtdjompbhlkgmbaaW.PrintWords Go.Proofs.YtdjompbhlkgmbaaW.PrintLast Go.Proofs.YtdjompbhlkgmbaaW.PrintMore
set_option linter.unusedVariables false
set_option linter.unusedSimpArgs false
/-- A number without its last j bytes. -/
def sh (n : Int) : Nat → Int
  | 0 => n
  | j + 1 => sh n j / 256
/-- The first m of w bytes. -/
def digs (n : Int) (w m : Nat) : List Int := (List.range m).map fun t => sh n (w - 1 - t) % 256
theorem digs_len (n : Int) (w m : Nat) : (digs n w m).length = m := by simp [digs]
end Go.Proofs.Ytdjompbhlkgmbaa.Num
end
section
/- What the reference's Get comes to: the same as num.Get (own text). -/
namespace Go.Proofs.Ytdjompbhlkgmbaa.Num
open Go.RowKit Go.Proofs.YtdjompbhlkgmbaaW.PrintWords Go.Proofs.YtdjompbhlkgmbaaW.PrintLast Go.Proofs.YtdjompbhlkgmbaaW.PrintMore
set_option linter.unusedVariables false
set_option linter.unusedSimpArgs false

/-- A number's bytes. -/
def bytesL (n : Int) : List Int :=
  if n < 64 then [n] else if n < 16384 then [64 + (n / 256), n % 256]
  else if n < 1073741824 then [128 + (((n / 256) / 256) / 256), ((n / 256) / 256) % 256, (n / 256) % 256, n % 256]
  else [192 + (((((((n / 256) / 256) / 256) / 256) / 256) / 256) / 256), ((((((n / 256) / 256) / 256) / 256) / 256) / 256) % 256, (((((n / 256) / 256) / 256) / 256) / 256) % 256, ((((n / 256) / 256) / 256) / 256) % 256, (((n / 256) / 256) / 256) % 256, ((n / 256) / 256) % 256, (n / 256) % 256, n % 256]
/-- A number's text, and the error's number. -/
def putB (n : Int) : ByteArray := if 4611686018427387904 ≤ n then ⟨#[]⟩ else strOfNums (bytesL n)
def putE (n : Int) : Int := if 4611686018427387904 ≤ n then 4 else 0
theorem putB_small {n : Int} (h : n < 4611686018427387904) : putB n = strOfNums (bytesL n) := if_neg (by omega)
theorem putE_small {n : Int} (h : n < 4611686018427387904) : putE n = 0 := if_neg (by omega)
theorem putB_size {n : Int} (h : n < 4611686018427387904) : (putB n).size = (bytesL n).length := by rw [putB_small h, strOfNums_size]
theorem bytesL_0 {n : Int} (h1 : n < 64) : bytesL n = [n] := if_pos h1
theorem bytesL_1 {n : Int} (h0 : 64 ≤ n) (h1 : n < 16384) : bytesL n = [64 + (n / 256), n % 256] := by
  unfold bytesL; rw [if_neg (by omega), if_pos h1]
theorem bytesL_2 {n : Int} (h0 : 16384 ≤ n) (h1 : n < 1073741824) : bytesL n = [128 + (((n / 256) / 256) / 256), ((n / 256) / 256) % 256, (n / 256) % 256, n % 256] := by
  unfold bytesL; rw [if_neg (by omega), if_neg (by omega), if_pos h1]
theorem bytesL_3 {n : Int} (h0 : 1073741824 ≤ n) : bytesL n = [192 + (((((((n / 256) / 256) / 256) / 256) / 256) / 256) / 256), ((((((n / 256) / 256) / 256) / 256) / 256) / 256) % 256, (((((n / 256) / 256) / 256) / 256) / 256) % 256, ((((n / 256) / 256) / 256) / 256) % 256, (((n / 256) / 256) / 256) % 256, ((n / 256) / 256) % 256, (n / 256) % 256, n % 256] := by
  unfold bytesL; rw [if_neg (by omega), if_neg (by omega), if_neg (by omega)]
theorem bytesL_length (n : Int) : (bytesL n).length = if n < 64 then 1 else if n < 16384 then 2 else if n < 1073741824 then 4 else 8 := by
  unfold bytesL; split
  · rfl
  · split
    · rfl
    · split <;> rfl

set_option maxHeartbeats 400000 in
theorem put_any (n : Int) (w : World) (h0 : 0 ≤ n) :
    Calls Try.prog 62 #[.int .u64 n] w fun e w' => e = .returned (.tuple #[.string (putB n), .int .i64 (putE n)]) ∧ Below w.heap.size w w' := by
  by_cases h : n < 4611686018427387904
  · rw [putB_small h, putE_small h]
    by_cases h1 : n < 64
    · rw [bytesL_0 h1]; exact put0 n w h0 h1
    · by_cases h2 : n < 16384
      · rw [bytesL_1 (by omega) h2]; exact put1 n w (by omega) h2
      · by_cases h3 : n < 1073741824
        · rw [bytesL_2 (by omega) h3]; exact put2 n w (by omega) h3
        · rw [bytesL_3 (by omega)]; exact put3 n w (by omega) h
  · have e1 : putB n = ⟨#[]⟩ := if_pos (by omega)
    have e2 : putE n = 4 := if_pos (by omega)
    rw [e1, e2]
    have c1 : decide (4611686018427387904 ≤ n) = true := by simp; omega
    clear e1 e2
    go_enter Try.func62, Try.ntmps62
    go_wp2
    go_ret2
    exact ⟨rfl, Below.refl _ _⟩
end Go.Proofs.Ytdjompbhlkgmbaa.Num
end
section
/- GetText and PutText, of the program and of the reference (own text). -/
namespace Go.Proofs.Ytdjompbhlkgmbaa.Num
open Go.RowKit Go.Proofs.YtdjompbhlkgmbaaW.PrintWords Go.Proofs.YtdjompbhlkgmbaaW.PrintLast Go.Proofs.YtdjompbhlkgmbaaW.PrintMore
set_option linter.unusedVariables false
set_option linter.unusedSimpArgs false

theorem wide_pos (c : Int) : 1 ≤ wide c ∧ wide c ≤ 8 := by
  unfold wide; split
  · decide
  · split
    · decide
    · split <;> decide
/-- What Get tells lies within bounds. -/
theorem getS_range (s : ByteArray) (a : Int) : 0 ≤ (getS s a).1 ∧ (getS s a).1 < 4611686018427387904 ∧ 0 ≤ (getS s a).2.1 ∧ (getS s a).2.1 ≤ s.size ∧ 0 ≤ (getS s a).2.2 ∧ (getS s a).2.2 ≤ 3 := by
  unfold getS
  split
  · simp
  split
  · simp
  split
  · simp
  rename_i h1 h2 h3
  have hw := wide_pos (byt s a / 64)
  have h4 := nval_pos s a (wide (byt s a / 64) - 1)
  have h5 := nval_max s a (wide (byt s a / 64) - 1) (by omega)
  unfold whole
  split
  · simp
  · refine ⟨h4, h5, ?_, ?_, ?_, ?_⟩ <;> simp only [] <;> omega
/-- What GetText tells: the text, the place behind it, the error's number. -/
def textS (s : ByteArray) (a most : Int) : ByteArray × Int × Int :=
  if (getS s a).2.2 = 0 then
    (if most < 0 ∨ (getS s a).1 > most then (⟨#[]⟩, 0, 4)
     else if (getS s a).1 > s.size - (getS s a).2.1 then (⟨#[]⟩, 0, 2)
     else (s.extract (getS s a).2.1.toNat ((getS s a).2.1 + (getS s a).1).toNat, (getS s a).2.1 + (getS s a).1, 0))
  else (⟨#[]⟩, 0, (getS s a).2.2)
def textV (r : ByteArray × Int × Int) : Value := .tuple #[.string r.1, .int .i64 r.2.1, .int .i64 r.2.2]
/-- The same from Get's own answer. -/
def textOf (s : ByteArray) (most : Int) (n p e : Int) : ByteArray × Int × Int :=
  if e = 0 then
    (if most < 0 ∨ n > most then (⟨#[]⟩, 0, 4)
     else if n > s.size - p then (⟨#[]⟩, 0, 2)
     else (s.extract p.toNat (p + n).toNat, p + n, 0))
  else (⟨#[]⟩, 0, e)
theorem textS_of (s : ByteArray) (a most : Int) : textS s a most = textOf s most (getS s a).1 (getS s a).2.1 (getS s a).2.2 := rfl
/-- A text's bytes, its length ahead. -/
def textB (t : ByteArray) : ByteArray := putB t.size ++ t

set_option maxHeartbeats 400000 in
theorem getText_err (s : ByteArray) (a most : Int) (w : World) (hs : s.size ≤ maxLen) (hm : most ≤ 9223372036854775807) (n p er : Int) (he : getS s a = (n, p, er)) (h : er ≠ 0) :
    Calls Try.prog 74 #[.string s, .int .i64 a, .int .i64 most] w fun e w' => e = .returned (textV (⟨#[]⟩, 0, er)) ∧ Below w.heap.size w w' := by
  have hg := get_any s a w hs
  have hr := getS_range s a
  rw [he] at hg hr
  simp only [getV] at hg
  simp only [] at hr
  have HG := Lib.hid hg
  clear hg he
  unfold maxLen at hs
  have c1 : (er == 0) = false := by simpa using h
  go_enter Try.func74, Try.ntmps74
  go_wp2_with (go_at_call 73; (with_reducible refine HG.out.mono ?_); rintro e w1 ⟨rfl, nd, rfl⟩; have hb := pw_below_drewN (Below.refl w.heap.size w) nd)
  go_ret3
  exact ⟨rfl, by repeat (first | exact hb | apply pw_below_drewN | apply below_drew1)⟩

set_option maxHeartbeats 400000 in
theorem getText_neg (s : ByteArray) (a most : Int) (w : World) (hs : s.size ≤ maxLen) (hm : most ≤ 9223372036854775807) (n p : Int) (he : getS s a = (n, p, 0)) (h : most < 0) :
    Calls Try.prog 74 #[.string s, .int .i64 a, .int .i64 most] w fun e w' => e = .returned (textV (⟨#[]⟩, 0, 4)) ∧ Below w.heap.size w w' := by
  have hg := get_any s a w hs
  have hr := getS_range s a
  rw [he] at hg hr
  simp only [getV] at hg
  simp only [] at hr
  have HG := Lib.hid hg
  clear hg he
  unfold maxLen at hs
  have c1 : decide (most < 0) = true := by simpa using h
  go_enter Try.func74, Try.ntmps74
  go_wp2_with (go_at_call 73; (with_reducible refine HG.out.mono ?_); rintro e w1 ⟨rfl, nd, rfl⟩; have hb := pw_below_drewN (Below.refl w.heap.size w) nd)
  go_ret3
  exact ⟨rfl, by repeat (first | exact hb | apply pw_below_drewN | apply below_drew1)⟩

set_option maxHeartbeats 400000 in
theorem getText_long (s : ByteArray) (a most : Int) (w : World) (hs : s.size ≤ maxLen) (hm : most ≤ 9223372036854775807) (n p : Int) (he : getS s a = (n, p, 0)) (h : 0 ≤ most) (h1 : most < n) :
    Calls Try.prog 74 #[.string s, .int .i64 a, .int .i64 most] w fun e w' => e = .returned (textV (⟨#[]⟩, 0, 4)) ∧ Below w.heap.size w w' := by
  have hg := get_any s a w hs
  have hr := getS_range s a
  rw [he] at hg hr
  simp only [getV] at hg
  simp only [] at hr
  have HG := Lib.hid hg
  clear hg he
  unfold maxLen at hs
  have hw : IntKind.u64.wrap most = most := IntWalk.u64_in _ ⟨h, by omega⟩
  have c1 : decide (most < 0) = false := by simpa using h
  have c2 : decide (most < n) = true := by simpa using h1
  go_enter Try.func74, Try.ntmps74
  go_wp2_with (go_at_call 73; (with_reducible refine HG.out.mono ?_); rintro e w1 ⟨rfl, nd, rfl⟩; have hb := pw_below_drewN (Below.refl w.heap.size w) nd)
  go_ret3
  exact ⟨rfl, by repeat (first | exact hb | apply pw_below_drewN | apply below_drew1)⟩

set_option maxHeartbeats 400000 in
theorem getText_short (s : ByteArray) (a most : Int) (w : World) (hs : s.size ≤ maxLen) (hm : most ≤ 9223372036854775807) (n p : Int) (he : getS s a = (n, p, 0)) (h : 0 ≤ most) (h1 : n ≤ most) (h2 : (s.size : Int) - p < n) :
    Calls Try.prog 74 #[.string s, .int .i64 a, .int .i64 most] w fun e w' => e = .returned (textV (⟨#[]⟩, 0, 2)) ∧ Below w.heap.size w w' := by
  have hg := get_any s a w hs
  have hr := getS_range s a
  rw [he] at hg hr
  simp only [getV] at hg
  simp only [] at hr
  have HG := Lib.hid hg
  clear hg he
  unfold maxLen at hs
  have hw : IntKind.u64.wrap most = most := IntWalk.u64_in _ ⟨h, by omega⟩
  have c1 : decide (most < 0) = false := by simpa using h
  have c2 : decide (most < n) = false := by simpa using h1
  have c3 : decide ((s.size : Int) - p < n) = true := by simpa using h2
  go_enter Try.func74, Try.ntmps74
  go_wp2_with (go_at_call 73; (with_reducible refine HG.out.mono ?_); rintro e w1 ⟨rfl, nd, rfl⟩; have hb := pw_below_drewN (Below.refl w.heap.size w) nd)
  go_ret3
  exact ⟨rfl, by repeat (first | exact hb | apply pw_below_drewN | apply below_drew1)⟩

set_option maxHeartbeats 400000 in
theorem getText_ok (s : ByteArray) (a most : Int) (w : World) (hs : s.size ≤ maxLen) (hm : most ≤ 9223372036854775807) (n p : Int) (he : getS s a = (n, p, 0)) (h : 0 ≤ most) (h1 : n ≤ most) (h2 : n ≤ (s.size : Int) - p) :
    Calls Try.prog 74 #[.string s, .int .i64 a, .int .i64 most] w fun e w' => e = .returned (textV (s.extract p.toNat (p + n).toNat, p + n, 0)) ∧ Below w.heap.size w w' := by
  have hg := get_any s a w hs
  have hr := getS_range s a
  rw [he] at hg hr
  simp only [getV] at hg
  simp only [] at hr
  have HG := Lib.hid hg
  clear hg he
  unfold maxLen at hs
  have hw : IntKind.u64.wrap most = most := IntWalk.u64_in _ ⟨h, by omega⟩
  have c1 : decide (most < 0) = false := by simpa using h
  have c2 : decide (most < n) = false := by simpa using h1
  have c3 : decide ((s.size : Int) - p < n) = false := by simpa using h2
  go_enter Try.func74, Try.ntmps74
  go_wp2_with (go_at_call 73; (with_reducible refine HG.out.mono ?_); rintro e w1 ⟨rfl, nd, rfl⟩; have hb := pw_below_drewN (Below.refl w.heap.size w) nd)
  go_ret3
  exact ⟨rfl, by repeat (first | exact hb | apply pw_below_drewN | apply below_drew1)⟩

set_option maxHeartbeats 400000 in
theorem putText_any (t : ByteArray) (w : World) (hs : t.size ≤ 9223372036854775000) :
    Calls Try.prog 21 #[.string t] w fun e w' => e = .returned (.string (textB t)) ∧ Below w.heap.size w w' := by
  have hp := put_any t.size w (by omega)
  have hz : (putB t.size).size ≤ 8 := by
    by_cases h : (t.size : Int) < 4611686018427387904
    · rw [putB_size h, bytesL_length]; (repeat' split) <;> decide
    · have e1 : putB t.size = ⟨#[]⟩ := if_pos (by omega)
      rw [e1]; decide
  have HG := Lib.hid hp
  clear hp
  go_enter Try.func21, Try.ntmps21
  go_wp2_with (go_at_call 62; (with_reducible refine HG.out.mono ?_); rintro e w1 ⟨rfl, hb⟩)
  go_ret
  exact ⟨rfl, hb⟩

theorem getText_any (s : ByteArray) (a most : Int) (w : World) (hs : s.size ≤ maxLen) (hm : most ≤ 9223372036854775807) :
    Calls Try.prog 74 #[.string s, .int .i64 a, .int .i64 most] w fun e w' => e = .returned (textV (textS s a most)) ∧ Below w.heap.size w w' := by
  rw [textS_of]
  obtain ⟨n, p, er, he⟩ : ∃ n p er, getS s a = (n, p, er) := ⟨_, _, _, rfl⟩
  rw [he]
  unfold textOf
  by_cases h : er = 0
  · subst h
    rw [if_pos rfl]
    by_cases h1 : most < 0 ∨ n > most
    · rw [if_pos h1]
      by_cases h2 : most < 0
      · exact getText_neg s a most w hs hm n p he h2
      · exact getText_long s a most w hs hm n p he (by omega) (by omega)
    · rw [if_neg h1]
      by_cases h2 : n > (s.size : Int) - p
      · rw [if_pos h2]; exact getText_short s a most w hs hm n p he (by omega) (by omega) h2
      · rw [if_neg h2]; exact getText_ok s a most w hs hm n p he (by omega) (by omega) (by omega)
  · rw [if_neg h]; exact getText_err s a most w hs hm n p er he h

end Go.Proofs.Ytdjompbhlkgmbaa.Num
end
section
/- numbers: a row of numbers written to the builder (own text). -/
namespace Go.Proofs.Ytdjompbhlkgmbaa.Msg
open Go.RowKit Go.Proofs.YtdjompbhlkgmbaaW.PrintWords Go.Proofs.YtdjompbhlkgmbaaW.PrintLast Go.Proofs.YtdjompbhlkgmbaaW.PrintMore
open Go.Proofs.Ytdjompbhlkgmbaa.Num (putB putE textB)
set_option linter.unusedVariables false
set_option linter.unusedSimpArgs false
theorem below_from {B : Nat} {w w1 w2 : World} (h : Below B w w1) (k : Below B w1 w2) : Below B w w2 :=
  ⟨k.os.trans h.os, k.tape.trans h.tape, k.output.trans h.output, Nat.le_trans h.size k.size, fun i hi => (k.block i hi).trans (h.block i hi)⟩
theorem below_less {B C : Nat} {w w1 : World} (h : Below C w w1) (k : B ≤ C) : Below B w w1 :=
  ⟨h.os, h.tape, h.output, h.size, fun i hi => h.block i (by omega)⟩
theorem others_below {e : TypeId} {b : Option Nat} {w w1 : World} (h : Below w.heap.size w w1) : Lib.OthersKept e b w w1 := fun z o hz _ _ => by
  rw [h.block z (Array.getElem?_eq_some_iff.1 hz).1]
  exact hz
/-- The bytes of numbers, one behind the other. -/
def numsL (l : List Int) : List UInt8 := l.flatMap fun x => (putB x).data.toList
theorem numsL_snoc (l : List Int) (i : Nat) (h : i < l.length) : numsL (l.take (i + 1)) = numsL (l.take i) ++ (putB l[i]).data.toList := by
  unfold numsL
  rw [List.take_succ_eq_append_getElem h, List.flatMap_append]
  simp
theorem putB_size (n : Int) : (putB n).size ≤ 8 := by
  unfold putB
  split
  · decide
  · unfold Num.bytesL
    repeat' split
    all_goals (show (List.toArray _).size ≤ 8; simp)
theorem numsL_len (l : List Int) : (numsL l).length ≤ 8 * l.length := by
  induction l with
  | nil => exact Nat.le_refl 0
  | cons x l ih =>
    have h := putB_size x
    have : (putB x).data.toList.length = (putB x).size := by simp
    show ((putB x).data.toList ++ numsL l).length ≤ 8 * (l.length + 1)
    rw [List.length_append]
    omega
def numC (l : List Int) : Array Value := (l.map fun x => Value.int .u64 x).toArray
theorem num_cell {w : World} {z : Nat} {l : List Int} (h : w.heap[z]? = some (.cells (numC l) 50 (0, 0))) (i : Nat) (hi : i < l.length) : w.cell? ⟨z, i, none⟩ = some (.int .u64 l[i]) := by
  rw [Lib.cell_of_heap h]
  simp [numC, hi]
set_option maxRecDepth 100000 in
set_option maxHeartbeats 4000000 in
theorem numbers_c (B b z c : Nat) (T : List UInt8) (l : List Int) (w : World) (hz : w.heap[z]? = some (.cells (numC l) 50 (0, 0))) (hzb : z ≠ b) (hc : l.length ≤ c) (hl : l.length ≤ 100) (hx : ∀ x, x ∈ l → 0 ≤ x) (hT : T.length ≤ 1000000)
    (hD : Lib.IsBuilderF 67 5 B b (Lib.byteCells T) w) (hB : B ≤ w.heap.size) :
    Calls Try.prog 19 #[.pointer (some ⟨b, 0, none⟩), .slice (some ⟨z, 0, none⟩) l.length c] w fun e w' => e = .returned (.tuple #[]) ∧ Lib.IsBuilderF 67 5 B b (Lib.byteCells (T ++ numsL l)) w' ∧ Below B w w' ∧ Lib.OthersKept 5 (some b) w w' := by
  have HZ := Lib.hid hz
  have HX := Lib.hid hx
  have HD := Lib.hid hD
  have HB := Lib.hid (Below.refl B w)
  have HK := Lib.hid (Lib.OthersKept.refl 5 (some b) w)
  have HL := Lib.hid hl
  have HT := Lib.hid hT
  have hB' := Lib.hid hB
  clear hz hx hD hB hT
  obtain ⟨n, hnn⟩ : ∃ n, n = l.length := ⟨_, rfl⟩
  rw [← hnn] at hc hl ⊢
  have HNN := Lib.hid hnn
  clear hnn
  go_enter Try.func19, Try.ntmps19
  go_wp2_with (fail)
  go_loopw [10] (fun v10 w' => ∃ (i : Nat) (y : Int), i ≤ n ∧ v10 = .int .i64 y ∧ Hid (y = (i : Int)) ∧ Hid (Lib.IsBuilderF 67 5 B b (Lib.byteCells (T ++ numsL (l.take i))) w') ∧ Hid (Below B w w') ∧ Hid (Lib.OthersKept 5 (some b) w w')) (fun v _ => n - (intOf v).toNat)
  case atStart => exact ⟨0, 0, Nat.zero_le _, rfl, Lib.hid rfl, Lib.hid (by rw [show numsL (l.take 0) = [] from rfl, List.append_nil]; exact HD.out), HB, HK⟩
  case round =>
    clear HD HB HK
    obtain ⟨i, y, hi, rfl, HY, HD, HB, HK⟩ := hrel
    by_cases hlt : i < n
    · have hil : i < l.length := by rw [← HNN.out]; exact hlt
      have hy0 : 0 ≤ y := by have := HY.out; omega
      have hy1 : y < (n : Int) := by have := HY.out; omega
      have vj : IntKind.i64.wrap (y + 1) = y + 1 := IntWalk.i64_in _ ⟨by omega, by omega⟩
      have hzz := HK.out z _ HZ.out (fun e => hzb (Option.some.inj e)) (fun c fz e => by injection e with _ e _; cases e)
      have hc0 : wr.cell? ⟨z, y.toNat, none⟩ = some (.int .u64 l[i]) := by rw [show y.toNat = i by have := HY.out; omega]; exact num_cell hzz i hil
      have HS := Lib.hid (numsL_snoc l i hil)
      have hx0 : 0 ≤ l[i] := HX.out _ (List.getElem_mem hil)
      clear hzz
      generalize l[i] = x at *
      have HLL := Lib.hid (show (T ++ numsL (l.take i)).length ≤ 1000800 from by
        have h1 := numsL_len (l.take i)
        rw [List.length_take] at h1
        rw [List.length_append]
        have := HT.out
        have := HL.out
        omega)
      have CP := Lib.hid (fun W => Num.put_any x W hx0)
      have hps := putB_size x
      generalize putB x = P at *
      generalize putE x = E at *
      have hq0 : (0 ≤ y) = True := eq_true hy0
      have hq1 : (y < (n : Int)) = True := eq_true hy1
      go_wp2_with (first
        | (go_at_call 62; (with_reducible refine (CP.out _).mono ?_); rintro e w1 ⟨rfl, hb1⟩; have HD1 := Lib.hid (build_below HD.out hb1); have HB1 := Lib.hid (below_from HB.out (below_less hb1 (by have := HB.out.size; have := hB'.out; omega))); have HK1 := Lib.hid (HK.out.trans (others_below hb1)); clear hb1 HD HB HK CP)
        | (go_at_call 20; (with_reducible refine (writes B b _ P _ HD1.out (by rw [Lib.byteCells_length]; have := HLL.out; omega) (by have := HB1.out.size; have := hB'.out; omega)).mono ?_); rintro e w2 ⟨rfl, hd2, hb2, hk2⟩; have HD2 := Lib.hid hd2; have HB2 := Lib.hid (below_from HB1.out hb2); have HK2 := Lib.hid (HK1.out.trans hk2); clear hd2 hb2 hk2 HD1 HB1 HK1))
      exact ⟨⟨i + 1, y + 1, by omega, rfl, Lib.hid (by have := HY.out; omega), Lib.hid (by rw [HS.out, ← List.append_assoc, Lib.byteCells_append]; exact HD2.out), HB2, HK2⟩, by have := HY.out; simp [intOf]; omega⟩
    · have hq2 : decide (y < (n : Int)) = false := decide_eq_false (by have := HY.out; omega)
      have hl : l.take i = l := by rw [show i = l.length by have := HNN.out; omega]; exact List.take_length
      rw [hl] at HD
      clear hl
      go_wp2_with (fail)
      first | go_end0 | go_ret
      exact ⟨rfl, HD.out, HB.out, HK.out⟩
end Go.Proofs.Ytdjompbhlkgmbaa.Msg
end

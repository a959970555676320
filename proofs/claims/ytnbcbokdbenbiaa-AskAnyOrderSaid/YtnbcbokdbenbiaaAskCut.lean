/- Rows of nodes' answers that the law goes through, and cut (own text; written by wip/tools/gen_askcut.py). -/
import Derived.Test.YtnbcbokdbenbiaaAskMap
namespace Go.Proofs.Ytnbcbokdbenbiaa.Ask
open Go.RowKit Go.Proofs.Ytnbcbokdbenbiaa.Mem Go.Lib Go.Proofs.YtnbcbokdbenbiaaW.PrintWords Go.Proofs.YtnbcbokdbenbiaaW.PrintLast Go.Proofs.YtnbcbokdbenbiaaW.PrintMore
set_option linter.unusedVariables false
set_option linter.unusedSimpArgs false
def opV (o : Int × Rep) : List Value := [.int .u8 o.1, .bool o.2.has, .bool o.2.past, .string o.2.key, .int .u64 o.2.p, .int .u32 o.2.l, .int .u8 o.2.n, .int .u8 o.2.kd, .int .u32 o.2.fl, .int .u64 o.2.ex, .string o.2.bd]
theorem opV_len (o : Int × Rep) : (opV o).length = 11 := rfl
def flatO (l : List (Int × Rep)) : List Value := l.flatMap opV
theorem flatO_len (l : List (Int × Rep)) : (flatO l).length = l.length * 11 := by
  induction l with
  | nil => rfl
  | cons x l ih => rw [flatO, List.flatMap_cons, List.length_append, opV_len]; rw [flatO] at ih; rw [ih, List.length_cons]; omega
theorem flatO_app (a b : List (Int × Rep)) : flatO (a ++ b) = flatO a ++ flatO b := by simp [flatO]
theorem flatO_at (l : List (Int × Rep)) (k : Nat) (hk : k < l.length) (i : Nat) (hi : i < 11) : (flatO l)[k * 11 + i]? = (opV l[k])[i]? := by
  have e : l = l.take k ++ (l[k] :: l.drop (k + 1)) := by rw [List.getElem_cons_drop]; exact (List.take_append_drop k l).symm
  have h1 : flatO l = flatO (l.take k) ++ (opV l[k] ++ flatO (l.drop (k + 1))) := by
    conv => lhs; rw [e]
    rw [flatO_app]
    rfl
  rw [h1, List.getElem?_append_right (by rw [flatO_len, List.length_take]; omega), flatO_len, List.length_take, List.getElem?_append_left (by rw [opV_len]; omega)]
  congr 1
  omega
/-- A row of answers of the law's own. -/
def RowO (w : World) (g : Nat) (v : Value) (l : List (Int × Rep)) : Prop :=
  (v = .slice none 0 0 ∧ l = []) ∨ ∃ cap rest, v = .slice (some ⟨g, 0, none⟩) l.length cap ∧ 0 < l.length ∧ l.length ≤ cap ∧ At w g (flatO l ++ rest).toArray 36
theorem rowO_keep {w w' : World} {g : Nat} {v : Value} {l : List (Int × Rep)} (h : RowO w g v l) (hg : g < w.heap.size → w'.heap[g]? = w.heap[g]?) : RowO w' g v l := by
  rcases h with ⟨e, rfl⟩ | ⟨cap, rest, e, h0, hc, ha⟩
  · exact .inl ⟨e, rfl⟩
  · exact .inr ⟨cap, rest, e, h0, hc, (hg ha.lt).trans ha⟩
theorem rowO_below {w w' : World} {g : Nat} {v : Value} {l : List (Int × Rep)} (h : RowO w g v l) (k : Below w.heap.size w w') : RowO w' g v l := rowO_keep h (fun hg => k.block g hg)
theorem rowO_chg {w w' : World} {g g' : Nat} {v : Value} {l : List (Int × Rep)} (h : RowO w g v l) (k : Chg (· = g') w w') (hne : g ≠ g') : RowO w' g v l := rowO_keep h (fun hg => k.block g hg hne)
theorem rowO_at {w : World} {g : Nat} {v : Value} {l : List (Int × Rep)} (h : RowO w g v l) (k : Nat) (hk : k < l.length) :
    w.cell? ⟨g, k * 11, none⟩ = some (.int .u8 l[k].1) ∧ w.cell? ⟨g, k * 11 + 1, none⟩ = some (.bool l[k].2.has) ∧ w.cell? ⟨g, k * 11 + 2, none⟩ = some (.bool l[k].2.past) ∧ w.cell? ⟨g, k * 11 + 3, none⟩ = some (.string l[k].2.key) ∧ w.cell? ⟨g, k * 11 + 4, none⟩ = some (.int .u64 l[k].2.p) ∧ w.cell? ⟨g, k * 11 + 5, none⟩ = some (.int .u32 l[k].2.l) ∧ w.cell? ⟨g, k * 11 + 6, none⟩ = some (.int .u8 l[k].2.n) ∧ w.cell? ⟨g, k * 11 + 7, none⟩ = some (.int .u8 l[k].2.kd) ∧ w.cell? ⟨g, k * 11 + 8, none⟩ = some (.int .u32 l[k].2.fl) ∧ w.cell? ⟨g, k * 11 + 9, none⟩ = some (.int .u64 l[k].2.ex) ∧ w.cell? ⟨g, k * 11 + 10, none⟩ = some (.string l[k].2.bd) := by
  rcases h with ⟨_, rfl⟩ | ⟨cap, rest, _, _, _, ha⟩
  · simp at hk
  · have hc : ∀ i, i < 11 → w.cell? ⟨g, k * 11 + i, none⟩ = (opV l[k])[i]? := by
      intro i hi
      rw [ha.cell, List.getElem?_toArray, List.getElem?_append_left (by rw [flatO_len]; omega)]
      exact flatO_at l k hk i hi
    exact ⟨hc 0 (by omega), hc 1 (by omega), hc 2 (by omega), hc 3 (by omega), hc 4 (by omega), hc 5 (by omega), hc 6 (by omega), hc 7 (by omega), hc 8 (by omega), hc 9 (by omega), hc 10 (by omega)⟩
theorem rowO_val {w : World} {g : Nat} {v : Value} {l : List (Int × Rep)} (h : RowO w g v l) : ∃ A cap, v = .slice A l.length cap ∧ l.length ≤ cap ∧ (0 < l.length → A = some ⟨g, 0, none⟩ ∧ g < w.heap.size) := by
  rcases h with ⟨e, rfl⟩ | ⟨cap, rest, e, h0, hc, ha⟩
  · exact ⟨none, 0, e, Nat.le_refl _, fun h => by simp at h⟩
  · exact ⟨_, cap, e, hc, fun _ => ⟨rfl, ha.lt⟩⟩
def kOp : Kd (Int × Rep) := Kd.iso (Kd.pair (Kd.int .u8) (Kd.pair (Kd.bool) (Kd.pair (Kd.bool) (Kd.pair (Kd.string) (Kd.pair (Kd.int .u64) (Kd.pair (Kd.int .u32) (Kd.pair (Kd.int .u8) (Kd.pair (Kd.int .u8) (Kd.pair (Kd.int .u32) (Kd.pair (Kd.int .u64) (Kd.string))))))))))) (fun o : Int × Rep => (o.1, o.2.has, o.2.past, o.2.key, o.2.p, o.2.l, o.2.n, o.2.kd, o.2.fl, o.2.ex, o.2.bd))
theorem kOp_openM {w : World} {base : Nat} {ok : Nat → Prop} {x : Int × Rep} {cs : List Value} (h : kOp.M w base ok x cs) : cs = opV x := by
  obtain ⟨_, _, rfl, rfl, _, _, rfl, rfl, _, _, rfl, rfl, _, _, rfl, rfl, _, _, rfl, rfl, _, _, rfl, rfl, _, _, rfl, rfl, _, _, rfl, rfl, _, _, rfl, rfl, _, _, rfl, rfl, rfl⟩ := h
  exact rfl
theorem kOp_mkM (w : World) (base : Nat) (ok : Nat → Prop) (x : Int × Rep) : kOp.M w base ok x (opV x) :=
  ⟨[_], _, rfl, rfl, [_], _, rfl, rfl, [_], _, rfl, rfl, [_], _, rfl, rfl, [_], _, rfl, rfl, [_], _, rfl, rfl, [_], _, rfl, rfl, [_], _, rfl, rfl, [_], _, rfl, rfl, [_], _, rfl, rfl, rfl⟩
theorem infoOp : (Try.prog.info? 36).map (fun i => (i.zero, i.size, i.bytes)) = some (some (.agg #[(.int .u8 0), (.bool false), (.bool false), (.string ⟨#[]⟩), (.int .u64 0), (.int .u32 0), (.int .u8 0), (.int .u8 0), (.int .u32 0), (.int .u64 0), (.string ⟨#[]⟩)]), 11, 80) := by kernel_rfl
theorem repsO_flat {w : World} {base : Nat} {ok : Nat → Prop} : ∀ (l : List (Int × Rep)) (inner : List Value), Reps (kOp.M w base ok) kOp.sz l inner → inner.length = l.length * 11 → inner = flatO l := by
  intro l inner h hl
  apply List.ext_getElem?
  intro i
  by_cases hi : i < l.length * 11
  · have hk : i / 11 < l.length := by omega
    have hp := h.2 (i / 11) l[i / 11] (List.getElem?_eq_getElem hk)
    have h3 := flatO_at l (i / 11) hk (i % 11) (by omega)
    have e2 : i / 11 * 11 + i % 11 = i := by omega
    rw [e2] at h3
    rw [h3, ← kOp_openM hp]
    show _ = ((inner.drop (i / 11 * 11)).take 11)[i % 11]?
    rw [List.getElem?_take, if_pos (by omega), List.getElem?_drop, e2]
  · rw [List.getElem?_eq_none (by omega), List.getElem?_eq_none (by rw [flatO_len]; omega)]
theorem rowO_of_R {w : World} {base : Nat} {ok : Nat → Prop} {v : Value} {l : List (Int × Rep)} (h : kOp.R 36 w base ok v l) (hnil : l = [] → v = .slice none 0 0) : ∃ g, base ≤ g ∧ RowO w g v l := by
  obtain ⟨h0, inner, ⟨hl, ho⟩, hr⟩ := h
  have hf := repsO_flat l inner hr hl
  by_cases hn : l = []
  · exact ⟨base, Nat.le_refl _, .inl ⟨hnil hn, hn⟩⟩
  have hn' : 0 < l.length := List.length_pos_iff.2 hn
  rcases ho with ⟨rfl, hz⟩ | ⟨g, cap, cur, rfl, hb, hg, hc, hm, hs, ht⟩
  · omega
  · refine ⟨g, hb, .inr ⟨cap, cur.toList.drop (l.length * 11), rfl, hn', hc, ?_⟩⟩
    show w.heap[g]? = _
    rw [hg, ← hf, ← ht]
    have e : kOp.sz = 11 := rfl
    rw [e, List.take_append_drop]
/-- A row of answers that came in. -/
def OpsIn (w : World) (A : Option Addr) (len : Nat) : Prop := 0 < len → ∃ b off, A = some ⟨b, off, none⟩ ∧ b < w.heap.size ∧ ∀ i, i < len → ∃ o : Int × Rep, 0 ≤ o.1 ∧ o.1 ≤ 255 ∧ ∀ j v, (opV o)[j]? = some v → w.cell? ⟨b, off + (i * 11 + j), none⟩ = some v
theorem opsIn_below {w w' : World} {A : Option Addr} {len : Nat} (h : OpsIn w A len) (hb : Below w.heap.size w w') : OpsIn w' A len := by
  intro h0
  obtain ⟨b, off, e, hn, hc⟩ := h h0
  refine ⟨b, off, e, Nat.lt_of_lt_of_le hn hb.size, fun i hi => ?_⟩
  obtain ⟨o, o0, o1, ho⟩ := hc i hi
  exact ⟨o, o0, o1, fun j v hj => (hb.cell (p := ⟨b, off + (i * 11 + j), none⟩) hn).trans (ho j v hj)⟩
set_option maxRecDepth 100000 in
set_option maxHeartbeats 8000000 in
theorem cut_row (b off len cap : Nat) (nk : ByteArray) (w : World) (hb : b < w.heap.size) (hlen : len ≤ 9223372036854775807) (hc : ∀ i, i < len → ∃ o : Int × Rep, 0 ≤ o.1 ∧ o.1 ≤ 255 ∧ ∀ j v, (opV o)[j]? = some v → w.cell? ⟨b, off + (i * 11 + j), none⟩ = some v) :
    Calls Try.prog 7 #[.slice (some ⟨b, off, none⟩) len cap, .string nk] w fun e w' => ∃ v g ops, e = .returned v ∧ RowO w' g v ops ∧ w.heap.size ≤ g ∧ ops.length ≤ 101 ∧ (∀ o ∈ ops, 0 ≤ o.1 ∧ o.1 ≤ 255) ∧ Below w.heap.size w w' := by
  have HC := Lib.hid hc
  clear hc
  go_enter Try.func7, Try.ntmps7
  go_wp2_with (fail)
  go_loopw [5, 10] (fun v5 v10 w' => ∃ (k : Nat) (acc : List (Int × Rep)) (v : Value), k ≤ len ∧ v10 = .int .i64 k ∧ v = v5 ∧ Hid (acc.length ≤ k ∧ acc.length ≤ 101) ∧ Hid (acc = [] → v = .slice none 0 0) ∧ Hid (∀ o ∈ acc, 0 ≤ o.1 ∧ o.1 ≤ 255) ∧ Hid (kOp.R 36 w' w.heap.size (fun _ => True) v acc) ∧ Hid (Below w.heap.size w w')) (fun _ i _ => len - (intOf i).toNat)
  case atStart => exact ⟨0, [], .slice none 0 0, by omega, rfl, rfl, Lib.hid ⟨Nat.le_refl _, by simp⟩, Lib.hid (fun _ => rfl), Lib.hid (fun o h => by simp at h), Lib.hid (Kd.R_nil _ _ _ _ _), Lib.hid (Below.refl _ _)⟩
  case round =>
    obtain ⟨k, acc, v, hk, rfl, rfl, HL, HN, HO, HV, HB⟩ := hrel
    have fin : ∀ W : World, Below wr.heap.size wr W → ∃ v' g ops, Ending.returned v = Ending.returned v' ∧ RowO W g v' ops ∧ w.heap.size ≤ g ∧ ops.length ≤ 101 ∧ (∀ o ∈ ops, 0 ≤ o.1 ∧ o.1 ≤ 255) ∧ Below w.heap.size w W := by
      intro W hW
      obtain ⟨g, hg, hr⟩ := rowO_of_R (Kd.R_below HV.out hW) HN.out
      exact ⟨v, g, acc, rfl, hr, hg, HL.out.2, HO.out, below_on HB.out hW⟩
    have FIN := Lib.hid fin
    clear fin
    by_cases hlt : k < len
    · obtain ⟨⟨node, has, past, key, p, la, no, kd, fl, ex, bd⟩, o0, o1, ho⟩ := HC.out k hlt
      have hbw : b < wr.heap.size := Nat.lt_of_lt_of_le hb HB.out.size
      have e : ∀ j v, (opV (node, ⟨has, past, key, p, la, no, kd, fl, ex, bd⟩))[j]? = some v → wr.cell? ⟨b, off + (k * 11 + j), none⟩ = some v := fun j v h => (HB.out.cell (p := ⟨b, off + (k * 11 + j), none⟩) hb).trans (ho j v h)
      simp only [] at o0 o1
      have e0 := e 0 _ rfl
      have e1 := e 1 _ rfl
      have e2 := e 2 _ rfl
      have e3 := e 3 _ rfl
      have e4 := e 4 _ rfl
      have e5 := e 5 _ rfl
      have e6 := e 6 _ rfl
      have e7 := e 7 _ rfl
      have e8 := e 8 _ rfl
      have e9 := e 9 _ rfl
      have e10 := e 10 _ rfl
      simp only [← Nat.add_assoc, Nat.add_zero] at e0 e1 e2 e3 e4 e5 e6 e7 e8 e9 e10
      have HO1 := Lib.hid (And.intro o0 o1)
      clear e ho o0 o1
      go_upto_region 5 with (fail)
      have HX := Lib.hid (at_new wr #[.int .u8 node, .bool has, .bool past, .string key, .int .u64 p, .int .u32 la, .int .u8 no, .int .u8 kd, .int .u32 fl, .int .u64 ex, .string bd] 36)
      have HB1 := Lib.hid (below_al (o := .cells #[.int .u8 node, .bool has, .bool past, .string key, .int .u64 p, .int .u32 la, .int .u8 no, .int .u8 kd, .int .u32 fl, .int .u64 ex, .string bd] 36) (Below.refl wr.heap.size wr))
      have zy := HX.out.lt
      clear e0 e1 e2 e3 e4 e5 e6 e7 e8 e9 e10
      generalize wr.alloc (.cells #[.int .u8 node, .bool has, .bool past, .string key, .int .u64 p, .int .u32 la, .int .u8 no, .int .u8 kd, .int .u32 fl, .int .u64 ex, .string bd] 36) = w3 at *
      obtain ⟨y, hyy⟩ : ∃ y, y = wr.heap.size := ⟨_, rfl⟩
      rw [← hyy] at HX zy ⊢
      have HY := Lib.hid hyy
      clear hyy
      have x3 := HX.out.cell 3
      have x10 := HX.out.cell 10
      by_cases h1 : 100 < k
      · have c1 : decide ((100 : Int) < (k : Int)) = true := decide_eq_true (by omega)
        clear x3 x10
        go_wp2_with (fail)
        go_ret
        exact FIN.out w3 HB1.out
      have c1 : decide ((100 : Int) < (k : Int)) = false := decide_eq_false (by omega)
      by_cases h2 : 1000 < key.size
      · have c2 : decide ((1000 : Int) < (key.size : Int)) = true := decide_eq_true (by omega)
        clear x10
        go_wp2_with (fail)
        go_ret
        exact FIN.out w3 HB1.out
      have c2 : decide ((1000 : Int) < (key.size : Int)) = false := decide_eq_false (by omega)
      by_cases h3 : 3000 < bd.size
      · have c3 : decide ((3000 : Int) < (bd.size : Int)) = true := decide_eq_true (by omega)
        go_wp2_with (fail)
        go_ret
        exact FIN.out w3 HB1.out
      have c3 : decide ((3000 : Int) < (bd.size : Int)) = false := decide_eq_false (by omega)
      have f3 := HX.out.free 3
      go_upto_region 7 with (fail)
      have HK := Lib.hid (show At (w3.setCell ⟨y, 3, none⟩ (.string nk)) y #[.int .u8 node, .bool has, .bool past, .string nk, .int .u64 p, .int .u32 la, .int .u8 no, .int .u8 kd, .int .u32 fl, .int .u64 ex, .string bd] 36 from at_set' HX.out rfl)
      have HV3 := Lib.hid (Kd.R_below HV.out (below_new HB1.out (b := y) (i := 3) (v := .string nk) (by rw [HY.out]; exact Nat.le_refl _)))
      have HB3 := Lib.hid (below_on HB.out (below_new HB1.out (b := y) (i := 3) (v := .string nk) (by rw [HY.out]; exact Nat.le_refl _)))
      clear x3 x10 f3 HX HB HV HB1 FIN
      generalize w3.setCell ⟨y, 3, none⟩ (.string nk) = w4 at *
      have x0 := HK.out.cell 0
      have x1 := HK.out.cell 1
      have x2 := HK.out.cell 2
      have x3 := HK.out.cell 3
      have x4 := HK.out.cell 4
      have x5 := HK.out.cell 5
      have x6 := HK.out.cell 6
      have x7 := HK.out.cell 7
      have x8 := HK.out.cell 8
      have x9 := HK.out.cell 9
      have x10 := HK.out.cell 10
      go_wp2_with (first
        | ((with_reducible refine gate_dst (N := 40) rfl ?_); refine Kd.R_append kOp (w0 := w) w.heap.size (by rfl) (.tmp 37) (.tmp 39) 23 36 (.agg #[(.int .u8 0), (.bool false), (.bool false), (.string ⟨#[]⟩), (.int .u64 0), (.int .u32 0), (.int .u8 0), (.int .u8 0), (.int .u32 0), (.int .u64 0), (.string ⟨#[]⟩)]) 80 rfl Try.underlying23 infoOp rfl (by decide) (by omega) v acc (node, ⟨has, past, nk, p, la, no, kd, fl, ex, bd⟩) (opV (node, ⟨has, past, nk, p, la, no, kd, fl, ex, bd⟩)) (fun _ => True) (fun _ => False) rfl rfl ?aP (fun _ hk => hk.elim) ?aF ?aO ?aB ?aS ?aL ?_; (case aP => exact kOp_mkM _ _ _ _); (case aF => exact (fun _ _ => trivial)); (case aO => exact HV3.out); (case aB => exact HB3.out); (case aS => exact HB3.out.size); (case aL => have := HL.out.2; omega); intro v1 w5 ho hb4 hg4 hat; have HV4 := Lib.hid ho; have HB4 := Lib.hid hb4; clear ho hb4 hg4 hat HV3 HB3 HK x0 x1 x2 x3 x4 x5 x6 x7 x8 x9 x10))
      exact ⟨⟨k + 1, acc ++ [(node, ⟨has, past, nk, p, la, no, kd, fl, ex, bd⟩)], v1, by omega, by go_num, rfl, Lib.hid (by have := HL.out.1; rw [List.length_append]; simp; omega), Lib.hid (fun h => by simp at h), Lib.hid (fun o h => by
        rcases List.mem_append.1 h with h | h
        · exact HO.out o h
        · rw [List.mem_singleton.1 h]; exact HO1.out), HV4, HB4⟩, by simp [intOf]; omega⟩
    · obtain rfl : k = len := by omega
      go_wp2_with (fail)
      go_ret
      exact FIN.out wr (Below.refl _ _)
set_option maxHeartbeats 1600000 in
theorem cut_nil (A : Option Addr) (cap : Nat) (nk : ByteArray) (w : World) :
    Calls Try.prog 7 #[.slice A 0 cap, .string nk] w fun e w' => ∃ v g ops, e = .returned v ∧ RowO w' g v ops ∧ w.heap.size ≤ g ∧ ops.length ≤ 101 ∧ (∀ o ∈ ops, 0 ≤ o.1 ∧ o.1 ≤ 255) ∧ Below w.heap.size w w' := by
  go_enter Try.func7, Try.ntmps7
  go_wp2_with (fail)
  go_rounds 1
  go_wp2
  go_ret
  exact ⟨_, w.heap.size, [], rfl, .inl ⟨rfl, rfl⟩, Nat.le_refl _, by simp, fun o h => by simp at h, Below.refl _ _⟩
theorem cut_any (A : Option Addr) (len cap : Nat) (nk : ByteArray) (w : World) (hlen : len ≤ 9223372036854775807) (h : OpsIn w A len) :
    Calls Try.prog 7 #[.slice A len cap, .string nk] w fun e w' => ∃ v g ops, e = .returned v ∧ RowO w' g v ops ∧ w.heap.size ≤ g ∧ ops.length ≤ 101 ∧ (∀ o ∈ ops, 0 ≤ o.1 ∧ o.1 ≤ 255) ∧ Below w.heap.size w w' := by
  by_cases h0 : 0 < len
  · obtain ⟨b, off, rfl, hb, hc⟩ := h h0
    exact cut_row b off len cap nk w hb hlen hc
  · obtain rfl : len = 0 := by omega
    exact cut_nil A cap nk w
end Go.Proofs.Ytnbcbokdbenbiaa.Ask

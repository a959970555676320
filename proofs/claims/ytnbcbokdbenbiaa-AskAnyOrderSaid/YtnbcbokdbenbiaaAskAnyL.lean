/- AskAnyOrder answers true: the walk (own text; written by wip/tools/gen_askany.py). -/
import Derived.Test.YtnbcbokdbenbiaaAskEnd
namespace Go.Proofs.Ytnbcbokdbenbiaa.Ask
open Go.RowKit Go.Proofs.Ytnbcbokdbenbiaa.Mem Go.Lib Go.Proofs.YtnbcbokdbenbiaaW.PrintWords Go.Proofs.YtnbcbokdbenbiaaW.PrintLast Go.Proofs.YtnbcbokdbenbiaaW.PrintMore
set_option linter.unusedVariables false
set_option linter.unusedSimpArgs false
/-- The place from which the second request's answer comes. -/
def ix (n L i : Nat) : Nat := (n + L - i) % L
def rot (acc : List (Int × Rep)) (n : Nat) : List (Int × Rep) := (List.range acc.length).map fun i => acc.getD (ix n acc.length i) (0, rep0)
theorem ix_lt (n L i : Nat) (h : 0 < L) : ix n L i < L := Nat.mod_lt _ h
theorem ix_back (n L j : Nat) (hn : n < L) (hj : j < L) : ix n L (ix n L j) = j := by
  unfold ix
  by_cases h : j ≤ n
  · have e1 : (n + L - j) % L = n - j := by
      rw [show n + L - j = (n - j) + L from by omega, Nat.add_mod_right, Nat.mod_eq_of_lt (by omega)]
    rw [e1, show n + L - (n - j) = j + L from by omega, Nat.add_mod_right, Nat.mod_eq_of_lt hj]
  · have e1 : (n + L - j) % L = n + L - j := Nat.mod_eq_of_lt (by omega)
    rw [e1, show n + L - (n + L - j) = j from by omega, Nat.mod_eq_of_lt hj]
theorem rot_len (acc : List (Int × Rep)) (n : Nat) : (rot acc n).length = acc.length := by simp [rot]
theorem rot_at (acc : List (Int × Rep)) (n i : Nat) (hi : i < (rot acc n).length) (hj : ix n acc.length i < acc.length) : (rot acc n)[i] = acc[ix n acc.length i] := by
  have hi' : i < acc.length := by rw [rot_len] at hi; exact hi
  have h : (rot acc n)[i]? = some acc[ix n acc.length i] := by
    unfold rot
    rw [List.getElem?_map, List.getElem?_range hi', Option.map_some, List.getD_eq_getElem?_getD, List.getElem?_eq_getElem hj]
    rfl
  rw [List.getElem?_eq_getElem hi] at h
  exact Option.some.inj h
theorem rot_mem (acc : List (Int × Rep)) (n : Nat) (hn : n < acc.length) (o : Int × Rep) : o ∈ rot acc n ↔ o ∈ acc := by
  constructor
  · intro h
    obtain ⟨i, hi, rfl⟩ := List.getElem_of_mem h
    rw [rot_at acc n i hi (ix_lt _ _ _ (by omega))]
    exact List.getElem_mem _
  · intro h
    obtain ⟨j, hj, rfl⟩ := List.getElem_of_mem h
    have h1 := ix_lt n acc.length j (by omega)
    have h2 := ix_back n acc.length j hn hj
    have h3 : (rot acc n)[ix n acc.length j]'(by rw [rot_len]; exact h1) = acc[j] := by
      rw [rot_at acc n _ _ (by rw [h2]; exact hj)]
      congr 1
    rw [← h3]
    exact List.getElem_mem _
def apart (acc : List (Int × Rep)) : Prop := acc.Pairwise (fun a b => a.1 ≠ b.1)
theorem apart_one : ∀ (l : List (Int × Rep)), apart l → ∀ a ∈ l, ∀ b ∈ l, a.1 = b.1 → a = b
  | [], _, a, ha, _, _, _ => by simp at ha
  | x :: l, h, a, ha, b, hb, e => by
    unfold apart at h
    rw [List.pairwise_cons] at h
    rcases List.mem_cons.1 ha with ea | ha'
    · rcases List.mem_cons.1 hb with eb | hb'
      · rw [ea, eb]
      · exact absurd (ea ▸ e) (h.1 b hb')
    · rcases List.mem_cons.1 hb with eb | hb'
      · exact absurd (eb ▸ e.symm) (h.1 a ha')
      · exact apart_one l h.2 a ha' b hb' e
theorem first_some {l : List (Int × Rep)} {m : Int} {o : Int × Rep} (h : l.find? (fun o => o.1 == m) = some o) : o ∈ l ∧ o.1 = m :=
  ⟨List.mem_of_find?_eq_some h, by simpa using List.find?_some h⟩
/-- Of answers of nodes apart, only who they are counts. -/
theorem first_same (l l' : List (Int × Rep)) (h : apart l) (hm : ∀ o, o ∈ l' ↔ o ∈ l) (m : Int) : first l' m = first l m := by
  unfold first
  cases h1 : l.find? (fun o => o.1 == m) with
  | none =>
    have : l'.find? (fun o => o.1 == m) = none := by
      rw [List.find?_eq_none] at h1 ⊢
      intro o ho
      exact h1 o ((hm o).1 ho)
    rw [this]
  | some o =>
    obtain ⟨ho, he⟩ := first_some h1
    have hs : (l'.find? (fun o => o.1 == m)).isSome = true := List.find?_isSome.2 ⟨o, (hm o).2 ho, by simp [he]⟩
    obtain ⟨q, hq⟩ := Option.isSome_iff_exists.1 hs
    obtain ⟨hq1, hq2⟩ := first_some hq
    rw [hq, apart_one l h q ((hm q).1 hq1) o ho (by rw [hq2, he])]
theorem after_same (ns : List Int) (l l' : List (Int × Rep)) (h : apart l) (hm : ∀ o, o ∈ l' ↔ o ∈ l) : after ns l' = after ns l := by
  unfold after
  apply List.map_congr_left
  intro x _
  unfold fill
  rw [first_same l l' h hm]
def seen (acc : List (Int × Rep)) (m : Int) : Bool := acc.any fun o => o.1 == m
theorem seen_snoc (acc : List (Int × Rep)) (o : Int × Rep) (m : Int) : seen (acc ++ [o]) m = if m = o.1 then true else seen acc m := by
  unfold seen
  rw [List.any_append]
  by_cases e : m = o.1
  · rw [if_pos e]; simp [e]
  · have e' : ¬ o.1 = m := fun h => e h.symm
    rw [if_neg e]; simp [e']
theorem apart_snoc (acc : List (Int × Rep)) (o : Int × Rep) (h : apart acc) (hs : seen acc o.1 = false) : apart (acc ++ [o]) := by
  unfold apart
  rw [List.pairwise_append]
  refine ⟨h, by simp, fun a ha b hb => ?_⟩
  rw [List.mem_singleton.1 hb]
  unfold seen at hs
  rw [List.any_eq_false] at hs
  intro e
  exact hs a ha (by simp [e])
theorem set_mono {w : World} {b n n' : Nat} {S : Int → Bool} (h : SetAt w b n S) (hn : n ≤ n') : SetAt w b n' S := by
  obtain ⟨D, ho, r⟩ := h
  exact ⟨D, ho.mono hn, r⟩
theorem below_two' {B F : Nat} {w w1 w2 : World} (h : Below B w w1) (k : Below F w1 w2) (hB : B ≤ F) : Below B w w2 :=
  ⟨k.os.trans h.os, k.tape.trans h.tape, k.output.trans h.output, Nat.le_trans h.size k.size, fun i hi => (k.block i (by omega)).trans (h.block i hi)⟩
theorem below_chgB {B : Nat} {w w1 w2 : World} {g : Nat} (h : Below B w w1) (k : Chg (· = g) w1 w2) (hg : B ≤ g) (hs : B ≤ w1.heap.size) : Below B w w2 :=
  ⟨k.os.trans h.os, k.tape.trans h.tape, k.output.trans h.output, Nat.le_trans h.size k.size, fun i hi => (k.block i (by omega) (by omega)).trans (h.block i hi)⟩
set_option maxRecDepth 100000 in
set_option maxHeartbeats 16000000 in
theorem any_row (ns : List Int) (A : Option Addr) (cap : Nat) (A1 : Option Addr) (n1 c1 : Nat) (nk : ByteArray) (t : Nat) (w : World) (hl : ns.length ≤ 100) (hnn : Nodes w A ns) (hk : nk.size ≤ 1000) (ht : t ≤ 255)
    (h1 : OpsIn w A1 n1) (hn1 : n1 ≤ 9223372036854775807) :
    Calls Try.prog 3 #[.slice A ns.length cap, .slice A1 n1 c1, .string nk, .int .u8 t] w fun e w' => e = .returned (.bool true) ∧ Below w.heap.size w w' := by
  have HN := Lib.hid (fun W (hW : Below w.heap.size w W) => new_any ns A cap 9 W hl (nodes_below hnn hW))
  have CU1 := Lib.hid (cut_any A1 n1 c1 nk w hn1 h1)
  have k1 : decide ((1000 : Int) < (nk.size : Int)) = false := decide_eq_false (by omega)
  clear hnn h1 hn1
  have hmm := @run_makeMap Try.prog
  obtain ⟨m, hm⟩ : ∃ m, m = ns.length := ⟨_, rfl⟩
  rw [← hm] at hl HN ⊢
  have hlm : decide ((100 : Int) < (m : Int)) = false := decide_eq_false (by omega)
  clear hm hk
  go_enter Try.func3, Try.ntmps3
  go_wp2_with (fail)
  refine (CU1.out).mono ?_
  rintro e w1 ⟨v, gz, os, rfl, hro, hgz, hol, hor, hb1⟩
  obtain ⟨AZ, cz, rfl, hcz, hAZ⟩ := rowO_val hro
  go_upto_region 7 with (fail)
  have HF0 := Lib.hid (set_made w1)
  have HO0 := Lib.hid (rowO_below hro (below_al (o := .map #[] 0) (Below.refl _ _)))
  have HB0 := Lib.hid (below_al (o := .map #[] 0) hb1)
  have HOR := Lib.hid hor
  have hwf : w.heap.size ≤ w1.heap.size := hb1.size
  clear hro hor hb1 CU1 hmm
  generalize w1.alloc (.map #[] 0) = w2 at *
  have hgzf : 0 < os.length → gz < w1.heap.size := fun h => (hAZ h).2
  generalize w1.heap.size = fb at *
  obtain ⟨n3, hn3⟩ : ∃ n, n = os.length := ⟨_, rfl⟩
  rw [← hn3] at hol hcz hAZ HO0 hgzf ⊢
  have HN3 := Lib.hid hn3
  clear hn3
  go_loopw [11, 40] (fun v11 v40 w' => ∃ (k : Nat) (acc : List (Int × Rep)) (v : Value), k ≤ n3 ∧ v40 = .int .i64 k ∧ v = v11 ∧ Hid (acc.length ≤ k) ∧ Hid (acc = [] → v = .slice none 0 0) ∧ Hid (apart acc) ∧ Hid (SetAt w' fb k (seen acc)) ∧ Hid (kOp.R 36 w' fb (fun j => j ≠ fb) v acc) ∧ Hid (Below fb w2 w')) (fun _ i _ => n3 - (intOf i).toNat)
  case atStart => exact ⟨0, [], .slice none 0 0, by omega, rfl, rfl, Lib.hid (Nat.le_refl _), Lib.hid (fun _ => rfl), Lib.hid List.Pairwise.nil, HF0, Lib.hid (Kd.R_nil _ _ _ _ _), Lib.hid (Below.refl _ _)⟩
  case round =>
    clear HF0
    obtain ⟨k, acc, v, hk, rfl, rfl, HL, HE, HD, HF, HV, HB⟩ := hrel
    by_cases hlt : k < n3
    · have hin : k < os.length := by rw [← HN3.out]; exact hlt
      obtain ⟨rfl, hgw⟩ := hAZ (by omega)
      obtain ⟨e0, e1, e2, e3, e4, e5, e6, e7, e8, e9, e10⟩ := rowO_at (rowO_keep HO0.out (fun _ => HB.out.block gz (hgzf (by omega)))) k hin
      obtain ⟨o0, o1⟩ := HOR.out os[k] (List.getElem_mem _)
      generalize os[k] = o at e0 e1 e2 e3 e4 e5 e6 e7 e8 e9 e10 o0 o1
      obtain ⟨node, has, past, key, p, la, no, kd, fl, ex, bd⟩ := o
      simp only at e0 e1 e2 e3 e4 e5 e6 e7 e8 e9 e10 o0 o1
      have hfbw := set_lt HF.out
      have hzf := hgzf (by omega)
      go_upto_region 9 with (fail)
      have AY3 := Lib.hid (at_new wr #[.int .u8 node, .bool has, .bool past, .string key, .int .u64 p, .int .u32 la, .int .u8 no, .int .u8 kd, .int .u32 fl, .int .u64 ex, .string bd] 36)
      have hbl := below_al (o := .cells #[.int .u8 node, .bool has, .bool past, .string key, .int .u64 p, .int .u32 la, .int .u8 no, .int .u8 kd, .int .u32 fl, .int .u64 ex, .string bd] 36) (Below.refl wr.heap.size wr)
      have HF3 := Lib.hid (set_below HF.out hbl)
      have HV3 := Lib.hid (Kd.R_below HV.out hbl)
      have HB3 := Lib.hid (below_two' HB.out hbl (by omega))
      clear HF HV HB hbl e0 e1 e2 e3 e4 e5 e6 e7 e8 e9 e10
      generalize wr.alloc (.cells #[.int .u8 node, .bool has, .bool past, .string key, .int .u64 p, .int .u32 la, .int .u8 no, .int .u8 kd, .int .u32 fl, .int .u64 ex, .string bd] 36) = w3 at *
      generalize wr.heap.size = y at *
      have hlk := set_look HF3.out o0 o1
      have x0 := AY3.out.cell 0
      have hyw := AY3.out.lt
      cases hs : seen acc node with
      | true =>
        rw [hs] at hlk
        go_wp2_with (fail)
        exact ⟨⟨k + 1, acc, v, by omega, by go_num, rfl, Lib.hid (by have := HL.out; omega), HE, HD, Lib.hid (set_mono HF3.out (by omega)), HV3, HB3⟩, by simp [intOf]; omega⟩
      | false =>
        rw [hs] at hlk
        have HD2 := Lib.hid (apart_snoc acc (node, ⟨has, past, key, p, la, no, kd, fl, ex, bd⟩) HD.out hs)
        have hal : Hid (acc.length ≤ 101) := Lib.hid (by have := HL.out; omega)
        go_upto_region 11 with (at_mapUpdate; refine wp_set_put _ rfl _ _ _ rfl fb k _ rfl HF3.out (by omega) node o0 o1 rfl rfl ?_; intro w6 hs6 hk6)
        have AY6 := Lib.hid (show At w6 y #[.int .u8 node, .bool has, .bool past, .string key, .int .u64 p, .int .u32 la, .int .u8 no, .int .u8 kd, .int .u32 fl, .int .u64 ex, .string bd] 36 from (hk6.block _ AY3.out.lt (by omega)).trans AY3.out)
        have HF6 := Lib.hid (set_iff (S' := seen (acc ++ [(node, ⟨has, past, key, p, la, no, kd, fl, ex, bd⟩)])) hs6 (fun j => (seen_snoc acc (node, ⟨has, past, key, p, la, no, kd, fl, ex, bd⟩) j).symm))
        have HV6 := Lib.hid (Kd.R_step HV3.out (fun j hj hlt => hk6.block j hlt hj))
        have HB6 := Lib.hid (below_chgB HB3.out hk6 (by omega) (by omega))
        have hyf : fb < y := by omega
        clear HF3 HV3 HB3 AY3 hs6 hk6 x0 hlk
        obtain ⟨x0, x1, x2, x3, x4, x5, x6, x7, x8, x9, x10⟩ := at11 AY6.out
        have hf6 := set_lt HF6.out
        go_wp2_with (first
          | ((with_reducible refine gate_dst (N := 55) rfl ?_); refine Kd.R_append kOp (w0 := w2) fb (by rfl) (.tmp 52) (.tmp 54) 23 36 (.agg #[(.int .u8 0), (.bool false), (.bool false), (.string ⟨#[]⟩), (.int .u64 0), (.int .u32 0), (.int .u8 0), (.int .u8 0), (.int .u32 0), (.int .u64 0), (.string ⟨#[]⟩)]) 80 rfl Try.underlying23 infoOp rfl (by decide) (by omega) v acc (node, ⟨has, past, key, p, la, no, kd, fl, ex, bd⟩) (opV (node, ⟨has, past, key, p, la, no, kd, fl, ex, bd⟩)) (fun j => j ≠ fb) (fun _ => False) rfl rfl ?aP (fun _ hk => hk.elim) ?aF ?aO ?aB ?aS ?aL ?_; (case aP => exact kOp_mkM _ _ _ _); (case aF => exact (fun j hj => by omega)); (case aO => exact HV6.out); (case aB => exact HB6.out); (case aS => omega); (case aL => have := hal.out; omega); intro v1 w7 ho7 hb7 hg7 hat7; have HF7 := Lib.hid (set_keep HF6.out (hg7.block _ hf6 (fun e => HV6.out.1 fb e.symm rfl))); have HV7 := Lib.hid ho7; have HB7 := Lib.hid hb7; clear ho7 hb7 hg7 hat7 HF6 HV6 HB6 AY6 x0 x1 x2 x3 x4 x5 x6 x7 x8 x9 x10))
        exact ⟨⟨k + 1, acc ++ [(node, ⟨has, past, key, p, la, no, kd, fl, ex, bd⟩)], v1, by omega, by go_num, rfl, Lib.hid (by have := HL.out; rw [List.length_append]; simp; omega), Lib.hid (fun h => by simp at h), HD2, HF7, HV7, HB7⟩, by simp [intOf]; omega⟩
    · obtain rfl : k = n3 := by omega
      clear hlt
      obtain ⟨gx, hgx, hrow⟩ := rowO_of_R HV.out HE.out
      obtain ⟨AX, cx, rfl, hcx, hAX⟩ := rowO_val hrow
      have HB1 := Lib.hid (below_two' HB0.out HB.out hwf)
      have HO1 := Lib.hid hrow
      have hal : acc.length ≤ 101 := by have := HL.out; omega
      have hfb := set_lt HF.out
      clear HV HE HL HF HO0 HB0 hrow HB hAZ hgzf
      obtain ⟨L, hL⟩ : ∃ n, n = acc.length := ⟨_, rfl⟩
      rw [← hL] at hal hcx hAX HO1 ⊢
      have HLL := Lib.hid hL
      clear hL
      by_cases h0 : L = 0
      · have c0 : ((L : Int) == 0) = true := beq_iff_eq.2 (by omega)
        go_wp2_with (fail)
        refine (fixed_any _).mono ?_
        rintro e w5 ⟨rfl, hb5⟩
        go_wp2_with (fail)
        go_ret
        exact ⟨rfl, below_on HB1.out hb5⟩
      have c0 : ((L : Int) == 0) = false := beq_eq_false_iff_ne.2 (by omega)
      have hL0 : 0 < L := by omega
      obtain ⟨rfl, hgw⟩ := hAX hL0
      clear hAX
      obtain ⟨n, hn⟩ : ∃ n, n = t % L := ⟨_, rfl⟩
      have hnL : n < L := by rw [hn]; exact Nat.mod_lt _ hL0
      have hmod : (t : Int) % (L : Int) = (n : Int) := by rw [hn]; exact (Int.natCast_emod t L).symm
      clear hn
      go_upto_region 16 with (fail)
      rw [hmod]
      clear hmod
      go_wp2_with (fail)
      refine (HN.out _ HB1.out).mono ?_
      rintro e w3 ⟨g1, rfl, hq1, hbg1, hg1, hb3⟩
      go_wp2_with (fail)
      refine (HN.out _ (below_on HB1.out hb3)).mono ?_
      rintro e w4 ⟨g2, rfl, hq2, hbg2, hg2, hb4⟩
      have hb1w := req_lt hq1
      have hb2w := req_lt hq2
      have HP0 := Lib.hid (show Req w4 wr.heap.size g1 9 (after ns (acc.take 0)) from by rw [List.take_zero, after_nil]; exact req_below hq1 hb4)
      have HQ0 := Lib.hid (show Req w4 w3.heap.size g2 9 (after ns ((rot acc n).take 0)) from by rw [List.take_zero, after_nil]; exact hq2)
      have HO0 := Lib.hid (rowO_below (rowO_below HO1.out hb3) hb4)
      have HB0 := Lib.hid (below_on (below_on HB1.out hb3) hb4)
      have hwb1 : w.heap.size ≤ wr.heap.size := HB1.out.size
      clear hq1 hq2 hb3 hb4 HO1 HB1 HN
      generalize w3.heap.size = b2 at *
      have hgxb : gx < wr.heap.size := hgw
      clear hgw hfb
      generalize wr.heap.size = b1 at *
      go_upto_region 20 with (fail)
      go_loopw [78] (fun v78 w' => ∃ i : Nat, i ≤ L ∧ v78 = .int .i64 i ∧ Hid (Req w' b1 g1 9 (after ns (acc.take i))) ∧ Hid (Req w' b2 g2 9 (after ns ((rot acc n).take i))) ∧ Hid (RowO w' gx (.slice (some ⟨gx, 0, none⟩) L cx) acc) ∧ Hid (Below w.heap.size w w')) (fun i _ => L - (intOf i).toNat)
      case atStart => exact ⟨0, by omega, rfl, HP0, HQ0, HO0, HB0⟩
      case round =>
        clear HP0 HQ0 HO0 HB0
        obtain ⟨i, hi, rfl, HP, HQ, HO, HB⟩ := hrel
        by_cases hlt : i < L
        · have hin : i < acc.length := by rw [← HLL.out]; exact hlt
          have hgx2 : gx < wr.heap.size := by have := req_lt HP.out; omega
          have hts : acc.take (i + 1) = acc.take i ++ [acc[i]] := List.take_succ_eq_append_getElem hin
          have hcl := fun W (h : RowO W gx (.slice (some ⟨gx, 0, none⟩) L cx) acc) => rowO_at h i hin
          have hjL : ix n L i < L := ix_lt n L i hL0
          have hri : i < (rot acc n).length := by rw [rot_len]; exact hin
          have hrt : (rot acc n).take (i + 1) = (rot acc n).take i ++ [acc[ix n L i]'(by rw [← HLL.out]; exact hjL)] := by
            rw [List.take_succ_eq_append_getElem hri, rot_at acc n i hri (by rw [← HLL.out]; exact hjL)]
            congr 2
            congr 1
            rw [HLL.out]
          have hcj := fun W (h : RowO W gx (.slice (some ⟨gx, 0, none⟩) L cx) acc) => rowO_at h (ix n L i) (by rw [← HLL.out]; exact hjL)
          have hmj : ((n : Int) + (L : Int) - (i : Int)) % (L : Int) = ((ix n L i : Nat) : Int) := by
            unfold ix
            rw [Int.natCast_emod]
            congr 1
            omega
          generalize ix n L i = j at hjL hrt hcj hmj
          generalize hoj : acc[j]'(by rw [← HLL.out]; exact hjL) = oj at hrt hcj
          generalize acc[i] = o at hts hcl
          obtain ⟨node, has, past, key, p, la, no, kd, fl, ex, bd⟩ := o
          obtain ⟨jnode, jhas, jpast, jkey, jp, jla, jno, jkd, jfl, jex, jbd⟩ := oj
          simp only at hcl hcj
          have hcap := fun W (h : Req W b1 g1 9 (after ns (acc.take i))) => take_any b1 g1 9 node ⟨has, past, key, p, la, no, kd, fl, ex, bd⟩ (after ns (acc.take i)) W h
          have hcaq := fun W (h : Req W b2 g2 9 (after ns ((rot acc n).take i))) => take_any b2 g2 9 jnode ⟨jhas, jpast, jkey, jp, jla, jno, jkd, jfl, jex, jbd⟩ (after ns ((rot acc n).take i)) W h
          rw [take_after, ← hts] at hcap
          rw [take_after, ← hrt] at hcaq
          unfold repV at hcap hcaq
          simp only at hcap hcaq
          have CT1 := Lib.hid hcap
          have CT2 := Lib.hid hcaq
          have HCL := Lib.hid hcl
          have HCJ := Lib.hid hcj
          clear hcap hcaq hts hrt hcl hcj hoj
          have w1_ : IntKind.i64.wrap ((n : Int) + (L : Int)) = (n : Int) + (L : Int) := IntWalk.i64_in _ ⟨by omega, by omega⟩
          have w2_ : IntKind.i64.wrap ((n : Int) + (L : Int) - (i : Int)) = (n : Int) + (L : Int) - (i : Int) := IntWalk.i64_in _ ⟨by omega, by omega⟩
          go_upto_region 22 with (fail)
          have HP3 := Lib.hid (req_below HP.out (below_drew (Below.refl _ _)))
          have HQ3 := Lib.hid (req_below HQ.out (below_drew (Below.refl _ _)))
          have HO3 := Lib.hid (rowO_below HO.out (below_drew (Below.refl _ _)))
          have HB3 := Lib.hid (below_drew HB.out)
          clear HP HQ HO HB
          obtain ⟨e0, e1, e2, e3, e4, e5, e6, e7, e8, e9, e10⟩ := HCL.out _ HO3.out
          refine start_ (n := 12) (S := fun w' => w'.cell? ⟨gx, i * 11, none⟩ = some (.int .u8 node) ∧ w'.cell? ⟨gx, i * 11 + 1, none⟩ = some (.bool has) ∧ w'.cell? ⟨gx, i * 11 + 2, none⟩ = some (.bool past) ∧ w'.cell? ⟨gx, i * 11 + 3, none⟩ = some (.string key) ∧ w'.cell? ⟨gx, i * 11 + 4, none⟩ = some (.int .u64 p) ∧ w'.cell? ⟨gx, i * 11 + 5, none⟩ = some (.int .u32 la) ∧ w'.cell? ⟨gx, i * 11 + 6, none⟩ = some (.int .u8 no) ∧ w'.cell? ⟨gx, i * 11 + 7, none⟩ = some (.int .u8 kd) ∧ w'.cell? ⟨gx, i * 11 + 8, none⟩ = some (.int .u32 fl) ∧ w'.cell? ⟨gx, i * 11 + 9, none⟩ = some (.int .u64 ex) ∧ w'.cell? ⟨gx, i * 11 + 10, none⟩ = some (.string bd)) (ds := []) #[false, false, false, false, false, false, false, false, false, false, false, false] (by kernel_rfl) rfl rfl ⟨e0, e1, e2, e3, e4, e5, e6, e7, e8, e9, e10⟩ (fun hHeld => ?_)
          generalize wr.drew = w3 at HP3 HQ3 HO3 HB3 hHeld ⊢
          refine pure_ (i := 0) (N := some 81) (v := ?_) (a' := ?_) #[true, false, false, false, false, false, false, false, false, false, false, false] rfl rfl (by kernel_rfl) (fun _ _ _ h => h) (Or.inl ⟨by rfl, ?_⟩) ?_ ?_
          rotate_left
          · intro w'
            go_simp
            with_reducible rfl
          rotate_left
          · simp only [Act.put, List.setIfInBounds_toArray, List.set_cons_zero, List.set_cons_succ, i64_w, i32_w]
            rfl
          refine pure_ (i := 1) (N := some 82) (v := ?_) (a' := ?_) #[true, true, false, false, false, false, false, false, false, false, false, false] rfl rfl (by kernel_rfl) (fun _ _ _ h => h) (Or.inl ⟨by rfl, ?_⟩) ?_ ?_
          rotate_left
          · intro w'
            go_simp
            with_reducible rfl
          rotate_left
          · simp only [Act.put, List.setIfInBounds_toArray, List.set_cons_zero, List.set_cons_succ, i64_w, i32_w]
            rfl
          refine pure_ (i := 2) (N := some 83) (v := ?_) (a' := ?_) #[true, true, true, false, false, false, false, false, false, false, false, false] rfl rfl (by kernel_rfl) (fun _ _ _ h => h) (Or.inl ⟨by rfl, ?_⟩) ?_ ?_
          rotate_left
          · intro w'
            go_simp
            with_reducible rfl
          rotate_left
          · simp only [Act.put, List.setIfInBounds_toArray, List.set_cons_zero, List.set_cons_succ, i64_w, i32_w]
            rfl
          refine pure_ (i := 3) (N := some 84) (v := ?_) (a' := ?_) #[true, true, true, true, false, false, false, false, false, false, false, false] rfl rfl (by kernel_rfl) (fun _ _ _ h => h) (Or.inl ⟨by rfl, ?_⟩) ?_ ?_
          rotate_left
          · intro w'
            go_simp
            with_reducible rfl
          rotate_left
          · simp only [Act.put, List.setIfInBounds_toArray, List.set_cons_zero, List.set_cons_succ, i64_w, i32_w]
            rfl
          refine pure_ (i := 4) (N := some 85) (v := ?_) (a' := ?_) #[true, true, true, true, true, false, false, false, false, false, false, false] rfl rfl (by kernel_rfl) (fun _ _ _ h => h) (Or.inl ⟨by rfl, ?_⟩) ?_ ?_
          rotate_left
          · intro w'
            go_simp
            with_reducible rfl
          rotate_left
          · simp only [Act.put, List.setIfInBounds_toArray, List.set_cons_zero, List.set_cons_succ, i64_w, i32_w]
            rfl
          refine pure_ (i := 6) (N := some 87) (v := ?_) (a' := ?_) #[true, true, true, true, true, false, true, false, false, false, false, false] rfl rfl (by kernel_rfl) (fun _ _ _ h => h) (Or.inl ⟨by rfl, ?_⟩) ?_ ?_
          rotate_left
          · intro w'
            go_simp
            with_reducible rfl
          rotate_left
          · simp only [Act.put, List.setIfInBounds_toArray, List.set_cons_zero, List.set_cons_succ, i64_w, i32_w]
            rfl
          refine pure_ (i := 7) (N := some 88) (v := ?_) (a' := ?_) #[true, true, true, true, true, false, true, true, false, false, false, false] rfl rfl (by kernel_rfl) (fun _ _ _ h => h) (Or.inl ⟨by rfl, ?_⟩) ?_ ?_
          rotate_left
          · intro w'
            go_simp
            with_reducible rfl
          rotate_left
          · simp only [Act.put, List.setIfInBounds_toArray, List.set_cons_zero, List.set_cons_succ, i64_w, i32_w]
            rfl
          refine pure_ (i := 8) (N := some 89) (v := ?_) (a' := ?_) #[true, true, true, true, true, false, true, true, true, false, false, false] rfl rfl (by kernel_rfl) (fun _ _ _ h => h) (Or.inl ⟨by rfl, ?_⟩) ?_ ?_
          rotate_left
          · intro w'
            go_simp
            with_reducible rfl
          rotate_left
          · simp only [Act.put, List.setIfInBounds_toArray, List.set_cons_zero, List.set_cons_succ, i64_w, i32_w]
            rfl
          refine pure_ (i := 9) (N := some 90) (v := ?_) (a' := ?_) #[true, true, true, true, true, false, true, true, true, true, false, false] rfl rfl (by kernel_rfl) (fun _ _ _ h => h) (Or.inl ⟨by rfl, ?_⟩) ?_ ?_
          rotate_left
          · intro w'
            go_simp
            with_reducible rfl
          rotate_left
          · simp only [Act.put, List.setIfInBounds_toArray, List.set_cons_zero, List.set_cons_succ, i64_w, i32_w]
            rfl
          refine take_ (i := 5) (N := some 86) (v := ?_) (a' := ?_) #[true, true, true, true, true, true, true, true, true, true, false, false] rfl rfl (by kernel_rfl) (fun _ _ _ h => h) (Or.inl ⟨by rfl, ?_⟩) hHeld ?_ ?_
          rotate_left
          · rintro w' ⟨s0, s1, s2, s3, s4, s5, s6, s7, s8, s9, s10⟩
            go_simp
            with_reducible rfl
          rotate_left
          · simp only [Act.put, List.setIfInBounds_toArray, List.set_cons_zero, List.set_cons_succ, i64_w, i32_w]
            rfl
          refine take_ (i := 10) (N := some 91) (v := ?_) (a' := ?_) #[true, true, true, true, true, true, true, true, true, true, true, false] rfl rfl (by kernel_rfl) (fun _ _ _ h => h) (Or.inl ⟨by rfl, ?_⟩) hHeld ?_ ?_
          rotate_left
          · rintro w' ⟨s0, s1, s2, s3, s4, s5, s6, s7, s8, s9, s10⟩
            go_simp
            with_reducible rfl
          rotate_left
          · simp only [Act.put, List.setIfInBounds_toArray, List.set_cons_zero, List.set_cons_succ, i64_w, i32_w]
            rfl
          refine one_ (i := 11) (N := some 92) #[true, true, true, true, true, true, true, true, true, true, true, true] rfl rfl (by kernel_rfl) (by decide) (fun K hK => ?_)
          refine goes_ Try.func9 (by kernel_rfl) rfl #[.pointer (some ⟨b1, 0, none⟩), .int .u8 node, .agg #[.bool has, .bool past, .string key, .int .u64 p, .int .u32 la, .int .u8 no, .int .u8 kd, .int .u32 fl, .int .u64 ex, .string bd]] (by rfl) rfl rfl (by simp only [List.map_toArray, List.map_cons, List.map_nil]; rfl) ?_
          with_reducible refine (CT1.out _ HP3.out).mono ?_
          rintro e w4 ⟨rfl, hq4, hk4⟩
          refine ⟨_, rfl, ?_⟩
          have HP4 := Lib.hid hq4
          have HQ4 := Lib.hid (req_chg HQ3.out hk4 (by omega) (by omega))
          have HO4 := Lib.hid (rowO_chg HO3.out hk4 (by omega))
          have HB4 := Lib.hid (below_chg' HB3.out hk4 (by omega))
          have HC4 := HCL.out _ HO4.out
          clear hq4 hk4 HP3 HQ3 HO3 HB3
          refine hK.out _ _ ⟨HC4.1, HC4.2.1, HC4.2.2.1, HC4.2.2.2.1, HC4.2.2.2.2.1, HC4.2.2.2.2.2.1, HC4.2.2.2.2.2.2.1, HC4.2.2.2.2.2.2.2.1, HC4.2.2.2.2.2.2.2.2.1, HC4.2.2.2.2.2.2.2.2.2.1, HC4.2.2.2.2.2.2.2.2.2.2⟩ (fun hHeld => ?_)
          clear hK K
          refine norm_ (a' := ?_) ?_ ?_
          rotate_left
          · show Act.put _ (some 92) _ = _
            simp only [Act.put, List.setIfInBounds_toArray, List.set_cons_zero, List.set_cons_succ, i64_w, i32_w]
            rfl
          refine done_ (by kernel_rfl) ?_
          clear HC4 e0 e1 e2 e3 e4 e5 e6 e7 e8 e9 e10
          obtain ⟨e0, e1, e2, e3, e4, e5, e6, e7, e8, e9, e10⟩ := HCJ.out _ HO4.out
          have hgx4 : gx < w4.heap.size := by have := req_lt HP4.out; omega
          try go_wp2_with (fail)
          have hbl := below_al (o := .cells #[.int .u8 jnode, .bool jhas, .bool jpast, .string jkey, .int .u64 jp, .int .u32 jla, .int .u8 jno, .int .u8 jkd, .int .u32 jfl, .int .u64 jex, .string jbd] 36) (Below.refl w4.heap.size w4)
          have hb24 := req_lt HQ4.out
          refine (CT2.out _ (req_below HQ4.out hbl)).mono ?_
          rintro e w5 ⟨rfl, hq5, hk5⟩
          have HQ5 := Lib.hid hq5
          have HP5 := Lib.hid (req_chg (req_below HP4.out hbl) hk5 (by omega) (by omega))
          have HO5 := Lib.hid (rowO_chg (rowO_below HO4.out hbl) hk5 (by omega))
          have HB5 := Lib.hid (below_chg' (below_on HB4.out hbl) hk5 (by omega))
          clear hq5 hk5 hbl HP4 HQ4 HO4 HB4 e0 e1 e2 e3 e4 e5 e6 e7 e8 e9 e10
          go_wp2_with (fail)
          exact ⟨⟨i + 1, by omega, by go_num, HP5, HQ5, HO5, HB5⟩, by simp [intOf]; omega⟩
        · obtain rfl : i = L := by omega
          clear hlt
          have HP1 := Lib.hid (show Req wr b1 g1 9 (after ns acc) from by have := HP.out; rw [show acc.take i = acc from by rw [HLL.out, List.take_length]] at this; exact this)
          have HQ1 := Lib.hid (show Req wr b2 g2 9 (after ns acc) from by
            have := HQ.out
            rw [show (rot acc n).take i = rot acc n from by rw [HLL.out, ← rot_len acc n, List.take_length]] at this
            rw [after_same ns acc (rot acc n) HD.out (fun o => rot_mem acc n (by rw [← HLL.out]; exact hnL) o)] at this
            exact this)
          clear HP HQ HO
          have cb1 := fun W (h : Req W b1 g1 9 (after ns acc)) => best_any b1 g1 9 (after ns acc) W h
          have cb2 := fun W (h : Req W b2 g2 9 (after ns acc)) => best_any b2 g2 9 (after ns acc) W h
          have cy1 := fun W (h : Req W b1 g1 9 (after ns acc)) => yes_any b1 g1 9 (after ns acc) W h
          have cy2 := fun W (h : Req W b2 g2 9 (after ns acc)) => yes_any b2 g2 9 (after ns acc) W h
          have ch1 := fun W (h : Req W b1 g1 9 (after ns acc)) => behind_any b1 g1 9 (after ns acc) W h
          have ch2 := fun W (h : Req W b2 g2 9 (after ns acc)) => behind_any b2 g2 9 (after ns acc) W h
          have co1 := fun W (h : Req W b1 g1 9 (after ns acc)) => over_any b1 g1 9 0 (after ns acc) W h
          have co2 := fun W (h : Req W b2 g2 9 (after ns acc)) => over_any b2 g2 9 0 (after ns acc) W h
          have hbl : (behF (after ns acc)).length ≤ 1000 := by
            have h1 : (behF (after ns acc)).length ≤ (after ns acc).length := by
              unfold behF
              split
              · simp
              · unfold behL; rw [List.length_map]; exact List.length_filter_le _ _
            obtain ⟨_, _, _, _, h2⟩ := HP1.out
            omega
          generalize after ns acc = l at *
          generalize yesN l = yn at cy1 cy2
          generalize behF l = bh at ch1 ch2 hbl
          generalize (decide ((9 : Int) ≤ 0) || comes l) = ov at co1 co2
          generalize bestF l = s at cb1 cb2
          obtain ⟨⟨bhas, bpast, bkey, bp, bl, bn, bkd, bfl, bex, bbd⟩, live, there⟩ := s
          simp only [bestV, recA] at cb1 cb2
          have hq2 := fun w => run_eql_struct (P := Try.prog) (w := w) 32 #[.string bkey, .int .u64 bp, .int .u32 bl, .int .u8 bn, .int .u8 bkd, .int .u32 bfl, .int .u64 bex, .string bbd] #[.string bkey, .int .u64 bp, .int .u32 bl, .int .u8 bn, .int .u8 bkd, .int .u32 bfl, .int .u64 bex, .string bbd]
          simp only [eqSelf, Result.andThen] at hq2
          have HQ2 := Lib.hid hq2
          have CB1 := Lib.hid cb1
          have CB2 := Lib.hid cb2
          have CY1 := Lib.hid cy1
          have CY2 := Lib.hid cy2
          have CH1 := Lib.hid ch1
          have CH2 := Lib.hid ch2
          have CO1 := Lib.hid co1
          have CO2 := Lib.hid co2
          clear cb1 cb2 cy1 cy2 ch1 ch2 co1 co2 hq2
          go_upto_region 27 with ((with_reducible refine (CB1.out _ HP1.out).mono ?_); rintro e w5 ⟨rfl, hb5⟩)
          have AX5 := Lib.hid (at_new w5 #[.string bkey, .int .u64 bp, .int .u32 bl, .int .u8 bn, .int .u8 bkd, .int .u32 bfl, .int .u64 bex, .string bbd] 32)
          have hbl5 := below_al (o := .cells #[.string bkey, .int .u64 bp, .int .u32 bl, .int .u8 bn, .int .u8 bkd, .int .u32 bfl, .int .u64 bex, .string bbd] 32) (Below.refl w5.heap.size w5)
          have HP5 := Lib.hid (req_below (req_below HP1.out hb5) hbl5)
          have HQ5 := Lib.hid (req_below (req_below HQ1.out hb5) hbl5)
          have HB5 := Lib.hid (below_on (below_on HB.out hb5) hbl5)
          clear HP1 HQ1 HB hb5 hbl5
          generalize w5.alloc (.cells #[.string bkey, .int .u64 bp, .int .u32 bl, .int .u8 bn, .int .u8 bkd, .int .u32 bfl, .int .u64 bex, .string bbd] 32) = w6 at *
          generalize w5.heap.size = ya at *
          go_upto_region 28 with ((with_reducible refine (CB2.out _ HQ5.out).mono ?_); rintro e w7 ⟨rfl, hb7⟩)
          have AZ7 := Lib.hid (at_new w7 #[.string bkey, .int .u64 bp, .int .u32 bl, .int .u8 bn, .int .u8 bkd, .int .u32 bfl, .int .u64 bex, .string bbd] 32)
          have hbl7 := below_al (o := .cells #[.string bkey, .int .u64 bp, .int .u32 bl, .int .u8 bn, .int .u8 bkd, .int .u32 bfl, .int .u64 bex, .string bbd] 32) (Below.refl w7.heap.size w7)
          have AX7 := Lib.hid (at_below (at_below AX5.out hb7) hbl7)
          have HP7 := Lib.hid (req_below (req_below HP5.out hb7) hbl7)
          have HQ7 := Lib.hid (req_below (req_below HQ5.out hb7) hbl7)
          have HB7 := Lib.hid (below_on (below_on HB5.out hb7) hbl7)
          clear HP5 HQ5 HB5 AX5 hb7 hbl7
          generalize w7.alloc (.cells #[.string bkey, .int .u64 bp, .int .u32 bl, .int .u8 bn, .int .u8 bkd, .int .u32 bfl, .int .u64 bex, .string bbd] 32) = w8 at *
          generalize w7.heap.size = yb at *
          go_wp2_with ((with_reducible refine (fixed_any _).mono ?_); rintro e w11 ⟨rfl, hb11⟩; obtain ⟨a0, a1, a2, a3, a4, a5, a6, a7, -⟩ := at8 (at_below AX7.out hb11); obtain ⟨d0, d1, d2, d3, d4, d5, d6, d7, -⟩ := at8 (at_below AZ7.out hb11); have hq2 := HQ2.out)
          clear a0 a1 a2 a3 a4 a5 a6 a7 d0 d1 d2 d3 d4 d5 d6 d7 hq2 AX7 AZ7
          have HP11 := Lib.hid (req_below HP7.out hb11)
          have HQ11 := Lib.hid (req_below HQ7.out hb11)
          have HB11 := Lib.hid (below_on HB7.out hb11)
          clear HP7 HQ7 HB7 hb11
          refine (CY1.out _ HP11.out).mono ?_
          rintro e w12 ⟨rfl, hb12⟩
          have HP12 := Lib.hid (req_below HP11.out hb12)
          have HQ12 := Lib.hid (req_below HQ11.out hb12)
          have HB12 := Lib.hid (below_on HB11.out hb12)
          clear HP11 HQ11 HB11 hb12
          go_wp2_with (fail)
          refine (CY2.out _ HQ12.out).mono ?_
          rintro e w13 ⟨rfl, hb13⟩
          have HP13 := Lib.hid (req_below HP12.out hb13)
          have HQ13 := Lib.hid (req_below HQ12.out hb13)
          have HB13 := Lib.hid (below_on HB12.out hb13)
          clear HP12 HQ12 HB12 hb13
          go_wp2_with (fail)
          refine (CH1.out _ HP13.out).mono ?_
          rintro e w14 ⟨v1, rfl, hv1, hb14⟩
          have HP14 := Lib.hid (req_below HP13.out hb14)
          have HQ14 := Lib.hid (req_below HQ13.out hb14)
          have HB14 := Lib.hid (below_on HB13.out hb14)
          have HV1 := Lib.hid hv1
          clear HP13 HQ13 HB13 hb14 hv1
          go_wp2_with (fail)
          refine (CH2.out _ HQ14.out).mono ?_
          rintro e w15 ⟨v2, rfl, hv2, hb15⟩
          have HP15 := Lib.hid (req_below HP14.out hb15)
          have HQ15 := Lib.hid (req_below HQ14.out hb15)
          have HB15 := Lib.hid (below_on HB14.out hb15)
          have HSM := Lib.hid (same_self bh hbl v1 v2 _ _ _ _ w15 (Kd.R_below HV1.out hb15) hv2)
          clear HP14 HQ14 HB14 hb15 hv2 HV1
          go_wp2_with (fail)
          refine (HSM.out).mono ?_
          rintro e w16 ⟨rfl, hb16⟩
          have HP16 := Lib.hid (req_below HP15.out hb16)
          have HQ16 := Lib.hid (req_below HQ15.out hb16)
          have HB16 := Lib.hid (below_on HB15.out hb16)
          clear HP15 HQ15 HB15 hb16 HSM
          go_wp2_with (fail)
          refine (CO1.out _ HP16.out).mono ?_
          rintro e w17 ⟨rfl, hb17⟩
          have HQ17 := Lib.hid (req_below HQ16.out hb17)
          have HB17 := Lib.hid (below_on HB16.out hb17)
          clear HP16 HQ16 HB16 hb17
          go_wp2_with (fail)
          refine (CO2.out _ HQ17.out).mono ?_
          rintro e w18 ⟨rfl, hb18⟩
          go_wp2_with (fail)
          go_ret
          exact ⟨rfl, below_on HB17.out hb18⟩
end Go.Proofs.Ytnbcbokdbenbiaa.Ask

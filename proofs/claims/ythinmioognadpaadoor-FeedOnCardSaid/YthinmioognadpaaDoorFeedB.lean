/- Merged of FeedEnd, FeedLineA, FeedNlA (own text; wip/tools/merge.py). -/
import Derived.Test.YthinmioognadpaaDoorFeedA
import Derived.Test.YthinmioognadpaaDoorPFeedBx1
/- end: one byte of data's tail (own text; written by wip/tools/gen_feedend.py). -/
namespace Go.Proofs.YthinmioognadpaaDoor.Feed
open Go.RowKit Go.Proofs.YthinmioognadpaaDoor.Mem Go.Proofs.YthinmioognadpaaDoorW.PrintWords Go.Proofs.YthinmioognadpaaDoorW.PrintLast Go.Proofs.YthinmioognadpaaDoorW.PrintMore
attribute [local go_sem] min2_int min_two
set_option linter.unusedVariables false
set_option linter.unusedSimpArgs false
def tailS (s : St) (x : Int) : St := { s with cr := s.tail == 0 && x == 13, tail := if 2 < s.tail + 1 then 2 else s.tail + 1 }
set_option maxRecDepth 100000 in
set_option maxHeartbeats 3200000 in
theorem end_no (b : Nat) (s : St) (hv : Value) (x : Int) (w : World) (h : FeedAt w b s hv) (hl : s.held.length ≤ 100000) (ht : 0 ≤ s.tail ∧ s.tail ≤ 100) (hx : x ≠ 10) :
    Calls Tryd.prog 25 #[.pointer (some ⟨b, 0, none⟩), .int .u8 x] w (StepsTo b hv w (tailS s x) cm0 false) := by
  obtain ⟨kv, ha, hr, hk⟩ := h
  have hx0 : (x == 10) = false := beq_eq_false_iff_ne.2 hx
  have hx1 : (x != 10) = true := bne_iff_ne.2 hx
  have vw : IntKind.i64.wrap (s.tail + 1) = s.tail + 1 := IntWalk.i64_in _ ⟨by omega, by omega⟩
  clear hx ht
  have HL := Lib.hid hl
  obtain ⟨A0, c0, ev⟩ := Kd.R_slice hr
  obtain ⟨n0, hn0⟩ : ∃ n, n = s.held.length := ⟨_, rfl⟩
  rw [← hn0] at ev
  have HN0 := Lib.hid hn0
  clear hn0
  subst ev
  go_enter Tryd.func25, Tryd.ntmps25
  go_upto_region 1 with (fail)
  have HA := Lib.hid (at_alloc (o := .cells Z7 28) ha)
  have HR1 := Lib.hid (Kd.R_alloc hr (.cells Z7 28))
  have HK := Lib.hid (keys_below hk (below_alloc (Below.refl _ _) (.cells Z7 28)))
  have HY := Lib.hid (at_new w Z7 28)
  have HT := Lib.hid (turn_below (turn_refl b (.slice A0 n0 c0) w) (below_alloc (Below.refl _ _) (.cells Z7 28)))
  have hsz : w.heap.size < (w.alloc (.cells Z7 28)).heap.size := by rw [World.size_alloc]; omega
  have hb := ha.lt
  clear ha hr hk hl
  unfold Z7 at HA HR1 HK HY HT hsz
  generalize w.alloc (.cells #[.int .i64 0, .slice none 0 0, .int .u32 0, .int .i64 0, .string ⟨#[]⟩, .bool false, .string ⟨#[]⟩] 28) = w0 at *
  replace HY : Hid (At w0 w.heap.size Z7 28) := HY
  have c4 : w0.cell? ⟨b, 10, none⟩ = some (.int .i64 s.tail) := HA.out.cell 10
  have c5 : w0.cell? ⟨b, 11, none⟩ = some (.bool s.cr) := HA.out.cell 11
  have f4 := HA.out.free 10
  have f5 := HA.out.free 11
  have hcr : ∃ cr, cr = (s.tail == 0 && x == 13) := ⟨_, rfl⟩
  have htl : ∃ tl, tl = (if 2 < s.tail + 1 then 2 else s.tail + 1) := ⟨_, rfl⟩
  have hbw := HA.out.lt
  have hyw := HY.out.lt
  have fin : ∀ (cr : Bool) (tl : Int), cr = (s.tail == 0 && x == 13) → tl = (if 2 < s.tail + 1 then 2 else s.tail + 1) → FeedAt ((w0.setCell ⟨b, 11, none⟩ (.bool cr)).setCell ⟨b, 10, none⟩ (.int .i64 tl)) b (tailS s x) (.slice A0 n0 c0) ∧ At ((w0.setCell ⟨b, 11, none⟩ (.bool cr)).setCell ⟨b, 10, none⟩ (.int .i64 tl)) w.heap.size Z7 28 ∧ Turn b (.slice A0 n0 c0) w ((w0.setCell ⟨b, 11, none⟩ (.bool cr)).setCell ⟨b, 10, none⟩ (.int .i64 tl)) := by
    intro cr tl e1 e2
    have a1 : At (w0.setCell ⟨b, 11, none⟩ (.bool cr)) b (feedA b { s with cr := cr } (.slice A0 n0 c0) kv) 42 := at_set' HA.out rfl
    have a2 : At ((w0.setCell ⟨b, 11, none⟩ (.bool cr)).setCell ⟨b, 10, none⟩ (.int .i64 tl)) b (feedA b { s with cr := cr, tail := tl } (.slice A0 n0 c0) kv) 42 := at_set' a1 rfl
    have e3 : tailS s x = { s with cr := cr, tail := tl } := by unfold tailS; rw [← e1, ← e2]
    refine ⟨?_, at_set_ne (at_set_ne HY.out (by omega)) (by omega), turn_set (turn_set HT.out)⟩
    rw [e3]
    exact feed_upd HA.out HR1.out HK.out (chg_set (chg_set (chg_refl _ _) rfl) rfl) a2 rfl rfl
  have FN := Lib.hid fin
  clear fin hcr htl
  cases h0 : (s.tail == 0) with
  | false =>
    cases h13 : (x == 13) with
    | false =>
      obtain ⟨HF4, HY4, HT4⟩ := FN.out false _ (by rw [h0, h13]; rfl) rfl
      go_upto_region 4 with (fail)
      clear FN HA HR1 HK HY HT c4 c5 f4 f5
      generalize (w0.setCell ⟨b, 11, none⟩ (.bool false)).setCell ⟨b, 10, none⟩ (.int .i64 (if 2 < s.tail + 1 then 2 else s.tail + 1)) = w3 at *
      generalize (if 2 < s.tail + 1 then 2 else s.tail + 1) = tl at *
      obtain ⟨q0, q1, q2, q3, q4, q5, q6, r0, r1, r2, r3, r4, r5, r6⟩ := at7 (show At w3 w.heap.size #[.int .i64 0, .slice none 0 0, .int .u32 0, .int .i64 0, .string ⟨#[]⟩, .bool false, .string ⟨#[]⟩] 28 from HY4)
      go_wp2_with (fail)
      refine bodyPost_ret (results_ct (p := 4) (u := 5) (ty := 28) (fn := Tryd.f25) ?h0 _ _ w.heap.size 28 Z7 (0, 0) _ ?h1 ?h2 Tryd.underlying28 rfl (by kernel_rfl)) ?h3 ?h4
      case h0 => rfl
      case h1 => rfl
      case h2 => exact at_put7 HY4
      case h3 => rfl
      case h4 => exact ⟨_, .slice none 0 0, rfl, keys_nil _, feed_res HF4 HY4 (chg_set7 (chg_refl _ _)), turn_new7 HT4 (Nat.le_refl _), .inl rfl⟩
    | true =>
      obtain ⟨HF4, HY4, HT4⟩ := FN.out false _ (by rw [h0, h13]; rfl) rfl
      go_upto_region 4 with (fail)
      clear FN HA HR1 HK HY HT c4 c5 f4 f5
      generalize (w0.setCell ⟨b, 11, none⟩ (.bool false)).setCell ⟨b, 10, none⟩ (.int .i64 (if 2 < s.tail + 1 then 2 else s.tail + 1)) = w3 at *
      generalize (if 2 < s.tail + 1 then 2 else s.tail + 1) = tl at *
      obtain ⟨q0, q1, q2, q3, q4, q5, q6, r0, r1, r2, r3, r4, r5, r6⟩ := at7 (show At w3 w.heap.size #[.int .i64 0, .slice none 0 0, .int .u32 0, .int .i64 0, .string ⟨#[]⟩, .bool false, .string ⟨#[]⟩] 28 from HY4)
      go_wp2_with (fail)
      refine bodyPost_ret (results_ct (p := 4) (u := 5) (ty := 28) (fn := Tryd.f25) ?h0 _ _ w.heap.size 28 Z7 (0, 0) _ ?h1 ?h2 Tryd.underlying28 rfl (by kernel_rfl)) ?h3 ?h4
      case h0 => rfl
      case h1 => rfl
      case h2 => exact at_put7 HY4
      case h3 => rfl
      case h4 => exact ⟨_, .slice none 0 0, rfl, keys_nil _, feed_res HF4 HY4 (chg_set7 (chg_refl _ _)), turn_new7 HT4 (Nat.le_refl _), .inl rfl⟩
  | true =>
    cases h13 : (x == 13) with
    | false =>
      obtain ⟨HF4, HY4, HT4⟩ := FN.out false _ (by rw [h0, h13]; rfl) rfl
      go_upto_region 4 with (fail)
      clear FN HA HR1 HK HY HT c4 c5 f4 f5
      generalize (w0.setCell ⟨b, 11, none⟩ (.bool false)).setCell ⟨b, 10, none⟩ (.int .i64 (if 2 < s.tail + 1 then 2 else s.tail + 1)) = w3 at *
      generalize (if 2 < s.tail + 1 then 2 else s.tail + 1) = tl at *
      obtain ⟨q0, q1, q2, q3, q4, q5, q6, r0, r1, r2, r3, r4, r5, r6⟩ := at7 (show At w3 w.heap.size #[.int .i64 0, .slice none 0 0, .int .u32 0, .int .i64 0, .string ⟨#[]⟩, .bool false, .string ⟨#[]⟩] 28 from HY4)
      go_wp2_with (fail)
      refine bodyPost_ret (results_ct (p := 4) (u := 5) (ty := 28) (fn := Tryd.f25) ?h0 _ _ w.heap.size 28 Z7 (0, 0) _ ?h1 ?h2 Tryd.underlying28 rfl (by kernel_rfl)) ?h3 ?h4
      case h0 => rfl
      case h1 => rfl
      case h2 => exact at_put7 HY4
      case h3 => rfl
      case h4 => exact ⟨_, .slice none 0 0, rfl, keys_nil _, feed_res HF4 HY4 (chg_set7 (chg_refl _ _)), turn_new7 HT4 (Nat.le_refl _), .inl rfl⟩
    | true =>
      obtain ⟨HF4, HY4, HT4⟩ := FN.out true _ (by rw [h0, h13]; rfl) rfl
      go_upto_region 4 with (fail)
      clear FN HA HR1 HK HY HT c4 c5 f4 f5
      generalize (w0.setCell ⟨b, 11, none⟩ (.bool true)).setCell ⟨b, 10, none⟩ (.int .i64 (if 2 < s.tail + 1 then 2 else s.tail + 1)) = w3 at *
      generalize (if 2 < s.tail + 1 then 2 else s.tail + 1) = tl at *
      obtain ⟨q0, q1, q2, q3, q4, q5, q6, r0, r1, r2, r3, r4, r5, r6⟩ := at7 (show At w3 w.heap.size #[.int .i64 0, .slice none 0 0, .int .u32 0, .int .i64 0, .string ⟨#[]⟩, .bool false, .string ⟨#[]⟩] 28 from HY4)
      go_wp2_with (fail)
      refine bodyPost_ret (results_ct (p := 4) (u := 5) (ty := 28) (fn := Tryd.f25) ?h0 _ _ w.heap.size 28 Z7 (0, 0) _ ?h1 ?h2 Tryd.underlying28 rfl (by kernel_rfl)) ?h3 ?h4
      case h0 => rfl
      case h1 => rfl
      case h2 => exact at_put7 HY4
      case h3 => rfl
      case h4 => exact ⟨_, .slice none 0 0, rfl, keys_nil _, feed_res HF4 HY4 (chg_set7 (chg_refl _ _)), turn_new7 HT4 (Nat.le_refl _), .inl rfl⟩
def badDataB : ByteArray := ⟨#[67, 76, 73, 69, 78, 84, 95, 69, 82, 82, 79, 82, 32, 98, 97, 100, 32, 100, 97, 116, 97, 32, 99, 104, 117, 110, 107]⟩
def crlfB : ByteArray := ⟨#[13, 10]⟩
def badC (t : ByteArray) : Cm := ⟨8, [], 0, 0, ⟨#[]⟩, false, t ++ crlfB⟩
def endC (s : St) : Cm := if (s.tail == 1 && s.cr) = true then { s.c with body := strOfNums s.held } else badC badDataB
def endS (s : St) : St := { s with held := [], c := cm0, mode := 0 }
theorem fbad (t : ByteArray) (ht : t.size + 2 ≤ 9223372036854775807) (w : World) : Calls Tryd.prog 22 #[.string t] w fun e w' => ∃ v, e = .returned (cmV (badC t) v) ∧ KeysAt w' v [] ∧ Below w.heap.size w w' := by
  refine (PFeedB.feed_bad.calls t 8 [] 0 0 ⟨#[]⟩ false (t ++ crlfB) w ?_).mono ?_
  · unfold PFeedB.feed_bad.f
    rw [if_pos ht]
    rfl
  · rintro e w' ⟨v, rfl, hr, hb⟩
    exact ⟨v, rfl, Kd.Q_mono (Kd.Q_lower (Kd.Q_of_R hr) (Nat.zero_le _)) (fun _ _ => trivial), hb⟩
theorem R_cut0 {w : World} {A : Option Addr} {n c : Nat} {xs : List Int} (h : (Kd.int .u8).R 5 w 0 (fun _ => True) (.slice A n c) xs) (hn : n = xs.length) : (Kd.int .u8).R 5 w 0 (fun _ => True) (.slice A 0 c) [] := by
  subst hn
  obtain ⟨h0, inner, ho, hr⟩ := h
  have h1 := own_take ho (Nat.zero_le _)
  rw [Nat.zero_mul, List.take_zero] at h1
  exact ⟨fun _ _ => trivial, [], h1, Reps.none _ _⟩
theorem cut0_own (A : Option Addr) (n c : Nat) : (Value.slice A 0 c).ownBlock = (Value.slice A n c).ownBlock := by cases A <;> rfl
theorem held_string {w : World} {A : Option Addr} {n c : Nat} {xs : List Int} (h : (Kd.int .u8).R 5 w 0 (fun _ => True) (.slice A n c) xs) (hn : n = xs.length) : (convert 38 9 (.slice A n c)).run Tryd.prog w = .ok (.string (strOfNums xs)) w := by
  have ho := Kd.own_of_R h
  exact own_string Tryd.underlying38 Tryd.underlying5 Tryd.underlying9 ho
set_option maxRecDepth 100000 in
set_option maxHeartbeats 3200000 in
theorem end_ok (b : Nat) (s : St) (hv : Value) (w : World) (h : FeedAt w b s hv) (hl : s.held.length ≤ 100000) (h1 : (s.tail != 1) = false) (h2 : s.cr = true) :
    Calls Tryd.prog 25 #[.pointer (some ⟨b, 0, none⟩), .int .u8 10] w (StepsTo b hv w (endS s) ({ s.c with body := strOfNums s.held }) (s.c.kind != 8)) := by
  obtain ⟨kv, ha, hr, hk⟩ := h
  have HL := Lib.hid hl
  obtain ⟨A0, c0, ev⟩ := Kd.R_slice hr
  obtain ⟨n0, hn0⟩ : ∃ n, n = s.held.length := ⟨_, rfl⟩
  rw [← hn0] at ev
  have HN0 := Lib.hid hn0
  clear hn0
  subst ev
  go_enter Tryd.func25, Tryd.ntmps25
  go_upto_region 1 with (fail)
  have HA := Lib.hid (at_alloc (o := .cells Z7 28) ha)
  have HR1 := Lib.hid (Kd.R_alloc hr (.cells Z7 28))
  have HK := Lib.hid (keys_below hk (below_alloc (Below.refl _ _) (.cells Z7 28)))
  have HY := Lib.hid (at_new w Z7 28)
  have HT := Lib.hid (turn_below (turn_refl b (.slice A0 n0 c0) w) (below_alloc (Below.refl _ _) (.cells Z7 28)))
  have hsz : w.heap.size < (w.alloc (.cells Z7 28)).heap.size := by rw [World.size_alloc]; omega
  have hb := ha.lt
  clear ha hr hk hl
  unfold Z7 at HA HR1 HK HY HT hsz
  generalize w.alloc (.cells #[.int .i64 0, .slice none 0 0, .int .u32 0, .int .i64 0, .string ⟨#[]⟩, .bool false, .string ⟨#[]⟩] 28) = w0 at *
  replace HY : Hid (At w0 w.heap.size Z7 28) := HY
  have c2 : w0.cell? ⟨b, 2, none⟩ = some (.int .i64 s.c.kind) := HA.out.cell 2
  have c3 : w0.cell? ⟨b, 3, none⟩ = some kv := HA.out.cell 3
  have c4 : w0.cell? ⟨b, 4, none⟩ = some (.int .u32 s.c.fl) := HA.out.cell 4
  have c5 : w0.cell? ⟨b, 5, none⟩ = some (.int .i64 s.c.ex) := HA.out.cell 5
  have c6 : w0.cell? ⟨b, 6, none⟩ = some (.string s.c.body) := HA.out.cell 6
  have c7 : w0.cell? ⟨b, 7, none⟩ = some (.bool s.c.quiet) := HA.out.cell 7
  have c8 : w0.cell? ⟨b, 8, none⟩ = some (.string s.c.reply) := HA.out.cell 8
  obtain ⟨kA, kc, ek, -⟩ := Kd.Q_slice HK.out
  obtain ⟨kn, hkn⟩ : ∃ n, n = s.c.keys.length := ⟨_, rfl⟩
  rw [← hkn] at ek
  clear hkn
  subst ek
  go_upto_region 6 with (fail)
  have hbw := HA.out.lt
  have hyw := HY.out.lt
  have HZ1 := Lib.hid (at_new w0 #[.int .i64 s.c.kind, .slice kA kn kc, .int .u32 s.c.fl, .int .i64 s.c.ex, .string s.c.body, .bool s.c.quiet, .string s.c.reply] 28)
  have HA1 := Lib.hid (at_alloc (o := .cells #[.int .i64 s.c.kind, .slice kA kn kc, .int .u32 s.c.fl, .int .i64 s.c.ex, .string s.c.body, .bool s.c.quiet, .string s.c.reply] 28) HA.out)
  have HR2 := Lib.hid (Kd.R_alloc HR1.out (.cells #[.int .i64 s.c.kind, .slice kA kn kc, .int .u32 s.c.fl, .int .i64 s.c.ex, .string s.c.body, .bool s.c.quiet, .string s.c.reply] 28))
  have HK1 := Lib.hid (keys_below HK.out (below_alloc (Below.refl _ _) (.cells #[.int .i64 s.c.kind, .slice kA kn kc, .int .u32 s.c.fl, .int .i64 s.c.ex, .string s.c.body, .bool s.c.quiet, .string s.c.reply] 28)))
  have HY1 := Lib.hid (at_alloc (o := .cells #[.int .i64 s.c.kind, .slice kA kn kc, .int .u32 s.c.fl, .int .i64 s.c.ex, .string s.c.body, .bool s.c.quiet, .string s.c.reply] 28) HY.out)
  have HT1 := Lib.hid (turn_below HT.out (below_alloc (Below.refl _ _) (.cells #[.int .i64 s.c.kind, .slice kA kn kc, .int .u32 s.c.fl, .int .i64 s.c.ex, .string s.c.body, .bool s.c.quiet, .string s.c.reply] 28)))
  clear HA HR1 HK HY HT c2 c3 c4 c5 c6 c7 c8
  generalize w0.alloc (.cells #[.int .i64 s.c.kind, .slice kA kn kc, .int .u32 s.c.fl, .int .i64 s.c.ex, .string s.c.body, .bool s.c.quiet, .string s.c.reply] 28) = w1 at *
  generalize w0.heap.size = z at *
  have hcv := held_string HR2.out HN0.out
  have c1 : w1.cell? ⟨b, 1, none⟩ = some (.slice A0 n0 c0) := HA1.out.cell 1
  have z4 := HZ1.out.cell 4
  have g4 := HZ1.out.free 4
  go_upto_region 7 with (fail)
  have HZ2 := Lib.hid (show At (w1.setCell ⟨z, 4, none⟩ (.string (strOfNums s.held))) z #[.int .i64 s.c.kind, .slice kA kn kc, .int .u32 s.c.fl, .int .i64 s.c.ex, .string (strOfNums s.held), .bool s.c.quiet, .string s.c.reply] 28 from at_set' HZ1.out rfl)
  have HF2 := Lib.hid (feed_res (s := s) (hv := .slice A0 n0 c0) ⟨_, HA1.out, HR2.out, HK1.out⟩ HZ1.out (chg_set (i := 4) (v := .string (strOfNums s.held)) (chg_refl _ _) rfl))
  have HK2 := Lib.hid (keys_keep HK1.out (fun j cells hc => (chg_set (S := fun i => i = z) (b := z) (i := 4) (v := .string (strOfNums s.held)) (chg_refl _ w1) rfl).block j (Array.getElem?_eq_some_iff.1 hc).1 (fun e => by
    have h1 := HZ1.out
    unfold At at h1
    rw [e, h1] at hc
    injection hc with hc
    injection hc with _ ht
    cases ht)))
  have HY2 := Lib.hid (show At (w1.setCell ⟨z, 4, none⟩ (.string (strOfNums s.held))) w.heap.size Z7 28 from at_set_ne HY1.out (by omega))
  have HT2 := Lib.hid (turn_new (b' := z) (i := 4) (v := .string (strOfNums s.held)) HT1.out (by omega))
  have HA2 := Lib.hid (show At (w1.setCell ⟨z, 4, none⟩ (.string (strOfNums s.held))) b (feedA b s (.slice A0 n0 c0) (.slice kA kn kc)) 42 from at_set_ne HA1.out (by omega))
  clear HZ1 HA1 HR2 HK1 HY1 HT1 hcv c1 z4 g4
  generalize w1.setCell ⟨z, 4, none⟩ (.string (strOfNums s.held)) = w2 at *
  have c10 : w2.cell? ⟨b, 10, none⟩ = some (.int .i64 s.tail) := HA2.out.cell 10
  have c11 : w2.cell? ⟨b, 11, none⟩ = some (.bool s.cr) := HA2.out.cell 11
  rw [h2] at c11
  go_upto_region 9 with (fail)
  clear c10 c11
  have HZ3 := HZ2
  have HF3 := HF2
  have HK3 := HK2
  have HY3 := HY2
  have HT3 := HT2
  have HA3 := HA2
  clear HZ2 HF2 HK2 HY2 HT2 HA2
  generalize w2 = w3 at *
  have e2 : w3.cell? ⟨b, 2, none⟩ = some (.int .i64 s.c.kind) := HA3.out.cell 2
  have e1 : w3.cell? ⟨b, 1, none⟩ = some (.slice A0 n0 c0) := HA3.out.cell 1
  have e3 : w3.cell? ⟨b, 3, none⟩ = some (.slice kA kn kc) := HA3.out.cell 3
  have e4 : w3.cell? ⟨b, 4, none⟩ = some (.int .u32 s.c.fl) := HA3.out.cell 4
  have e5 : w3.cell? ⟨b, 5, none⟩ = some (.int .i64 s.c.ex) := HA3.out.cell 5
  have e6 : w3.cell? ⟨b, 6, none⟩ = some (.string s.c.body) := HA3.out.cell 6
  have e7 : w3.cell? ⟨b, 7, none⟩ = some (.bool s.c.quiet) := HA3.out.cell 7
  have e8 : w3.cell? ⟨b, 8, none⟩ = some (.string s.c.reply) := HA3.out.cell 8
  have f1 := HA3.out.free 1
  have f2 := HA3.out.free 2
  have f3 := HA3.out.free 3
  have f4 := HA3.out.free 4
  have f5 := HA3.out.free 5
  have f6 := HA3.out.free 6
  have f7 := HA3.out.free 7
  have f8 := HA3.out.free 8
  go_upto_region 11 with (fail)
  have HF4 := Lib.hid (by
    obtain ⟨kv', ha', hr', hk'⟩ := HF3.out
    exact feed_strike (v1 := .int .i64 0) (v2 := .slice none 0 0) (v3 := .int .u32 0) (v4 := .int .i64 0) (v5 := .string ⟨#[]⟩) (v6 := .bool false) (v7 := .string ⟨#[]⟩) HF3.out (R_cut0 hr' HN0.out) (cut0_own A0 n0 c0) rfl rfl rfl rfl rfl rfl rfl)
  have kb : Chg (fun i => i = b) w3 ((((((((w3.setCell ⟨b, 1, none⟩ (.slice A0 0 c0)).setCell ⟨b, 2, none⟩ (.int .i64 0)).setCell ⟨b, 3, none⟩ (.slice none 0 0)).setCell ⟨b, 4, none⟩ (.int .u32 0)).setCell ⟨b, 5, none⟩ (.int .i64 0)).setCell ⟨b, 6, none⟩ (.string ⟨#[]⟩)).setCell ⟨b, 7, none⟩ (.bool false)).setCell ⟨b, 8, none⟩ (.string ⟨#[]⟩)) := chg_set (chg_set (chg_set (chg_set (chg_set (chg_set (chg_set (chg_set (chg_refl _ _) rfl) rfl) rfl) rfl) rfl) rfl) rfl) rfl
  have hbz : z ≠ b := by omega
  have hby : w.heap.size ≠ b := by omega
  have HZ4 := Lib.hid (show At ((((((((w3.setCell ⟨b, 1, none⟩ (.slice A0 0 c0)).setCell ⟨b, 2, none⟩ (.int .i64 0)).setCell ⟨b, 3, none⟩ (.slice none 0 0)).setCell ⟨b, 4, none⟩ (.int .u32 0)).setCell ⟨b, 5, none⟩ (.int .i64 0)).setCell ⟨b, 6, none⟩ (.string ⟨#[]⟩)).setCell ⟨b, 7, none⟩ (.bool false)).setCell ⟨b, 8, none⟩ (.string ⟨#[]⟩)) z #[.int .i64 s.c.kind, .slice kA kn kc, .int .u32 s.c.fl, .int .i64 s.c.ex, .string (strOfNums s.held), .bool s.c.quiet, .string s.c.reply] 28 from (kb.block z HZ3.out.lt hbz).trans HZ3.out)
  have HY4 := Lib.hid (show At ((((((((w3.setCell ⟨b, 1, none⟩ (.slice A0 0 c0)).setCell ⟨b, 2, none⟩ (.int .i64 0)).setCell ⟨b, 3, none⟩ (.slice none 0 0)).setCell ⟨b, 4, none⟩ (.int .u32 0)).setCell ⟨b, 5, none⟩ (.int .i64 0)).setCell ⟨b, 6, none⟩ (.string ⟨#[]⟩)).setCell ⟨b, 7, none⟩ (.bool false)).setCell ⟨b, 8, none⟩ (.string ⟨#[]⟩)) w.heap.size Z7 28 from (kb.block _ HY3.out.lt hby).trans HY3.out)
  have HK4 := Lib.hid (keys_res HK3.out HA3.out (by decide) kb)
  have HT4 := Lib.hid (show Turn b (.slice A0 n0 c0) w ((((((((w3.setCell ⟨b, 1, none⟩ (.slice A0 0 c0)).setCell ⟨b, 2, none⟩ (.int .i64 0)).setCell ⟨b, 3, none⟩ (.slice none 0 0)).setCell ⟨b, 4, none⟩ (.int .u32 0)).setCell ⟨b, 5, none⟩ (.int .i64 0)).setCell ⟨b, 6, none⟩ (.string ⟨#[]⟩)).setCell ⟨b, 7, none⟩ (.bool false)).setCell ⟨b, 8, none⟩ (.string ⟨#[]⟩)) from turn_set (turn_set (turn_set (turn_set (turn_set (turn_set (turn_set (turn_set HT3.out))))))))
  clear kb HZ3 HY3 HK3 HT3 HF3 HA3 e1 e2 e3 e4 e5 e6 e7 e8 f1 f2 f3 f4 f5 f6 f7 f8
  generalize ((((((((w3.setCell ⟨b, 1, none⟩ (.slice A0 0 c0)).setCell ⟨b, 2, none⟩ (.int .i64 0)).setCell ⟨b, 3, none⟩ (.slice none 0 0)).setCell ⟨b, 4, none⟩ (.int .u32 0)).setCell ⟨b, 5, none⟩ (.int .i64 0)).setCell ⟨b, 6, none⟩ (.string ⟨#[]⟩)).setCell ⟨b, 7, none⟩ (.bool false)).setCell ⟨b, 8, none⟩ (.string ⟨#[]⟩)) = w4 at *
  obtain ⟨kv4, ha4, hr4, hk4⟩ := HF4.out
  have HA4 := Lib.hid ha4
  have HR4 := Lib.hid hr4
  have HKV4 := Lib.hid hk4
  clear ha4 hr4 hk4 HF4
  have e0 : w4.cell? ⟨b, 0, none⟩ = some (.func (.func (modeF s.mode)) #[.pointer (some ⟨b, 0, none⟩)] #[]) := HA4.out.cell 0
  have f0 := HA4.out.free 0
  go_upto_region 12 with (fail)
  have kb : Chg (fun i => i = b) w4 (w4.setCell ⟨b, 0, none⟩ (.func (.func 14) #[.pointer (some ⟨b, 0, none⟩)] #[])) := chg_set (chg_refl _ _) rfl
  have HF5 := Lib.hid (feed_upd (s' := endS s) HA4.out HR4.out HKV4.out kb (at_set' HA4.out rfl) rfl rfl)
  have HZ5 := Lib.hid (show At (w4.setCell ⟨b, 0, none⟩ (.func (.func 14) #[.pointer (some ⟨b, 0, none⟩)] #[])) z #[.int .i64 s.c.kind, .slice kA kn kc, .int .u32 s.c.fl, .int .i64 s.c.ex, .string (strOfNums s.held), .bool s.c.quiet, .string s.c.reply] 28 from (kb.block z HZ4.out.lt hbz).trans HZ4.out)
  have HY5 := Lib.hid (show At (w4.setCell ⟨b, 0, none⟩ (.func (.func 14) #[.pointer (some ⟨b, 0, none⟩)] #[])) w.heap.size Z7 28 from (kb.block _ HY4.out.lt hby).trans HY4.out)
  have HK5 := Lib.hid (keys_res HK4.out HA4.out (by decide) kb)
  have HT5 := Lib.hid (turn_set (i := 0) (v := .func (.func 14) #[.pointer (some ⟨b, 0, none⟩)] #[]) HT4.out)
  clear kb HZ4 HY4 HK4 HT4 HA4 HR4 HKV4 e0 f0
  generalize w4.setCell ⟨b, 0, none⟩ (.func (.func 14) #[.pointer (some ⟨b, 0, none⟩)] #[]) = w6 at *
  obtain ⟨q0, q1, q2, q3, q4, q5, q6, r0, r1, r2, r3, r4, r5, r6⟩ := at7 (show At w6 w.heap.size #[.int .i64 0, .slice none 0 0, .int .u32 0, .int .i64 0, .string ⟨#[]⟩, .bool false, .string ⟨#[]⟩] 28 from HY5.out)
  obtain ⟨t0, t1, t2, t3, t4, t5, t6, -⟩ := at7 HZ5.out
  go_wp2_with (fail)
  refine bodyPost_ret (results_ct (p := 4) (u := 5) (ty := 28) (fn := Tryd.f25) ?h0 _ _ w.heap.size 28 #[.int .i64 s.c.kind, .slice kA kn kc, .int .u32 s.c.fl, .int .i64 s.c.ex, .string (strOfNums s.held), .bool s.c.quiet, .string s.c.reply] (0, 0) _ ?h1 ?h2 Tryd.underlying28 rfl (by kernel_rfl)) ?h3 ?h4
  case h0 => rfl
  case h1 => rfl
  case h2 => exact at_put7 HY5.out
  case h3 => rfl
  case h4 => exact ⟨.slice A0 0 c0, .slice kA kn kc, rfl, keys_res HK5.out HY5.out (by decide) (chg_set7 (chg_refl _ _)), feed_res HF5.out HY5.out (chg_set7 (chg_refl _ _)), turn_new7 HT5.out (Nat.le_refl _), .inl (cut0_own A0 n0 c0)⟩
set_option maxRecDepth 100000 in
set_option maxHeartbeats 3200000 in
theorem end_b1 (b : Nat) (s : St) (hv : Value) (w : World) (h : FeedAt w b s hv) (hl : s.held.length ≤ 100000) (h1 : (s.tail != 1) = true) :
    Calls Tryd.prog 25 #[.pointer (some ⟨b, 0, none⟩), .int .u8 10] w (StepsTo b hv w (endS s) (badC badDataB) (s.c.kind != 8)) := by
  obtain ⟨kv, ha, hr, hk⟩ := h
  have HL := Lib.hid hl
  obtain ⟨A0, c0, ev⟩ := Kd.R_slice hr
  obtain ⟨n0, hn0⟩ : ∃ n, n = s.held.length := ⟨_, rfl⟩
  rw [← hn0] at ev
  have HN0 := Lib.hid hn0
  clear hn0
  subst ev
  go_enter Tryd.func25, Tryd.ntmps25
  go_upto_region 1 with (fail)
  have HA := Lib.hid (at_alloc (o := .cells Z7 28) ha)
  have HR1 := Lib.hid (Kd.R_alloc hr (.cells Z7 28))
  have HK := Lib.hid (keys_below hk (below_alloc (Below.refl _ _) (.cells Z7 28)))
  have HY := Lib.hid (at_new w Z7 28)
  have HT := Lib.hid (turn_below (turn_refl b (.slice A0 n0 c0) w) (below_alloc (Below.refl _ _) (.cells Z7 28)))
  have hsz : w.heap.size < (w.alloc (.cells Z7 28)).heap.size := by rw [World.size_alloc]; omega
  have hb := ha.lt
  clear ha hr hk hl
  unfold Z7 at HA HR1 HK HY HT hsz
  generalize w.alloc (.cells #[.int .i64 0, .slice none 0 0, .int .u32 0, .int .i64 0, .string ⟨#[]⟩, .bool false, .string ⟨#[]⟩] 28) = w0 at *
  replace HY : Hid (At w0 w.heap.size Z7 28) := HY
  have c2 : w0.cell? ⟨b, 2, none⟩ = some (.int .i64 s.c.kind) := HA.out.cell 2
  have c3 : w0.cell? ⟨b, 3, none⟩ = some kv := HA.out.cell 3
  have c4 : w0.cell? ⟨b, 4, none⟩ = some (.int .u32 s.c.fl) := HA.out.cell 4
  have c5 : w0.cell? ⟨b, 5, none⟩ = some (.int .i64 s.c.ex) := HA.out.cell 5
  have c6 : w0.cell? ⟨b, 6, none⟩ = some (.string s.c.body) := HA.out.cell 6
  have c7 : w0.cell? ⟨b, 7, none⟩ = some (.bool s.c.quiet) := HA.out.cell 7
  have c8 : w0.cell? ⟨b, 8, none⟩ = some (.string s.c.reply) := HA.out.cell 8
  obtain ⟨kA, kc, ek, -⟩ := Kd.Q_slice HK.out
  obtain ⟨kn, hkn⟩ : ∃ n, n = s.c.keys.length := ⟨_, rfl⟩
  rw [← hkn] at ek
  clear hkn
  subst ek
  go_upto_region 6 with (fail)
  have hbw := HA.out.lt
  have hyw := HY.out.lt
  have HZ1 := Lib.hid (at_new w0 #[.int .i64 s.c.kind, .slice kA kn kc, .int .u32 s.c.fl, .int .i64 s.c.ex, .string s.c.body, .bool s.c.quiet, .string s.c.reply] 28)
  have HA1 := Lib.hid (at_alloc (o := .cells #[.int .i64 s.c.kind, .slice kA kn kc, .int .u32 s.c.fl, .int .i64 s.c.ex, .string s.c.body, .bool s.c.quiet, .string s.c.reply] 28) HA.out)
  have HR2 := Lib.hid (Kd.R_alloc HR1.out (.cells #[.int .i64 s.c.kind, .slice kA kn kc, .int .u32 s.c.fl, .int .i64 s.c.ex, .string s.c.body, .bool s.c.quiet, .string s.c.reply] 28))
  have HK1 := Lib.hid (keys_below HK.out (below_alloc (Below.refl _ _) (.cells #[.int .i64 s.c.kind, .slice kA kn kc, .int .u32 s.c.fl, .int .i64 s.c.ex, .string s.c.body, .bool s.c.quiet, .string s.c.reply] 28)))
  have HY1 := Lib.hid (at_alloc (o := .cells #[.int .i64 s.c.kind, .slice kA kn kc, .int .u32 s.c.fl, .int .i64 s.c.ex, .string s.c.body, .bool s.c.quiet, .string s.c.reply] 28) HY.out)
  have HT1 := Lib.hid (turn_below HT.out (below_alloc (Below.refl _ _) (.cells #[.int .i64 s.c.kind, .slice kA kn kc, .int .u32 s.c.fl, .int .i64 s.c.ex, .string s.c.body, .bool s.c.quiet, .string s.c.reply] 28)))
  clear HA HR1 HK HY HT c2 c3 c4 c5 c6 c7 c8
  generalize w0.alloc (.cells #[.int .i64 s.c.kind, .slice kA kn kc, .int .u32 s.c.fl, .int .i64 s.c.ex, .string s.c.body, .bool s.c.quiet, .string s.c.reply] 28) = w1 at *
  generalize w0.heap.size = z at *
  have hcv := held_string HR2.out HN0.out
  have c1 : w1.cell? ⟨b, 1, none⟩ = some (.slice A0 n0 c0) := HA1.out.cell 1
  have z4 := HZ1.out.cell 4
  have g4 := HZ1.out.free 4
  go_upto_region 7 with (fail)
  have HZ2 := Lib.hid (show At (w1.setCell ⟨z, 4, none⟩ (.string (strOfNums s.held))) z #[.int .i64 s.c.kind, .slice kA kn kc, .int .u32 s.c.fl, .int .i64 s.c.ex, .string (strOfNums s.held), .bool s.c.quiet, .string s.c.reply] 28 from at_set' HZ1.out rfl)
  have HF2 := Lib.hid (feed_res (s := s) (hv := .slice A0 n0 c0) ⟨_, HA1.out, HR2.out, HK1.out⟩ HZ1.out (chg_set (i := 4) (v := .string (strOfNums s.held)) (chg_refl _ _) rfl))
  have HK2 := Lib.hid (keys_keep HK1.out (fun j cells hc => (chg_set (S := fun i => i = z) (b := z) (i := 4) (v := .string (strOfNums s.held)) (chg_refl _ w1) rfl).block j (Array.getElem?_eq_some_iff.1 hc).1 (fun e => by
    have h1 := HZ1.out
    unfold At at h1
    rw [e, h1] at hc
    injection hc with hc
    injection hc with _ ht
    cases ht)))
  have HY2 := Lib.hid (show At (w1.setCell ⟨z, 4, none⟩ (.string (strOfNums s.held))) w.heap.size Z7 28 from at_set_ne HY1.out (by omega))
  have HT2 := Lib.hid (turn_new (b' := z) (i := 4) (v := .string (strOfNums s.held)) HT1.out (by omega))
  have HA2 := Lib.hid (show At (w1.setCell ⟨z, 4, none⟩ (.string (strOfNums s.held))) b (feedA b s (.slice A0 n0 c0) (.slice kA kn kc)) 42 from at_set_ne HA1.out (by omega))
  clear HZ1 HA1 HR2 HK1 HY1 HT1 hcv c1 z4 g4
  generalize w1.setCell ⟨z, 4, none⟩ (.string (strOfNums s.held)) = w2 at *
  have c10 : w2.cell? ⟨b, 10, none⟩ = some (.int .i64 s.tail) := HA2.out.cell 10
  have c11 : w2.cell? ⟨b, 11, none⟩ = some (.bool s.cr) := HA2.out.cell 11
  obtain ⟨BS, hBS⟩ : ∃ x, x = badDataB ++ crlfB := ⟨_, rfl⟩
  have fb := fun w => fbad badDataB (by decide) w
  unfold cmV badC at fb
  simp only [← hBS] at fb
  unfold badDataB at fb
  have FB := Lib.hid fb
  have HBS := Lib.hid hBS
  clear fb hBS
  go_upto_region 8 with (fail)
  clear c10 c11
  go_upto_region 9 with ((with_reducible refine (FB.out _).mono ?_); rintro e w5 ⟨bv, rfl, hbv, hb5⟩; obtain ⟨bA, bc, ebv, -⟩ := Kd.Q_slice hbv; subst ebv; have z0' := at7 (at_below HZ2.out hb5); obtain ⟨z0, z1, z2, z3, z4, z5, z6, g0, g1, g2, g3, g4, g5, g6⟩ := z0')
  have kz : Chg (fun i => i = z) w5 (((((((w5.setCell ⟨z, 0, none⟩ (.int .i64 8)).setCell ⟨z, 1, none⟩ (.slice bA 0 bc)).setCell ⟨z, 2, none⟩ (.int .u32 0)).setCell ⟨z, 3, none⟩ (.int .i64 0)).setCell ⟨z, 4, none⟩ (.string ⟨#[]⟩)).setCell ⟨z, 5, none⟩ (.bool false)).setCell ⟨z, 6, none⟩ (.string BS)) := chg_set7 (chg_refl _ _)
  have HZ3 := Lib.hid (at_put7 (a0 := .int .i64 8) (a1 := .slice bA 0 bc) (a2 := .int .u32 0) (a3 := .int .i64 0) (a4 := .string ⟨#[]⟩) (a5 := .bool false) (a6 := .string BS) (at_below HZ2.out hb5))
  have HF3 := Lib.hid (feed_res (feed_below HF2.out hb5) (at_below HZ2.out hb5) kz)
  have HK3 := Lib.hid (keys_res hbv (at_below HZ2.out hb5) (by decide) kz)
  have HY3 := Lib.hid (at_ne7 (v0 := .int .i64 8) (v1 := .slice bA 0 bc) (v2 := .int .u32 0) (v3 := .int .i64 0) (v4 := .string ⟨#[]⟩) (v5 := .bool false) (v6 := .string BS) (at_below HY2.out hb5) (show w.heap.size ≠ z by omega))
  have HA3 := Lib.hid (at_ne7 (v0 := .int .i64 8) (v1 := .slice bA 0 bc) (v2 := .int .u32 0) (v3 := .int .i64 0) (v4 := .string ⟨#[]⟩) (v5 := .bool false) (v6 := .string BS) (at_below HA2.out hb5) (show b ≠ z by omega))
  have HT3 := Lib.hid (turn_new7 (y := z) (v0 := .int .i64 8) (v1 := .slice bA 0 bc) (v2 := .int .u32 0) (v3 := .int .i64 0) (v4 := .string ⟨#[]⟩) (v5 := .bool false) (v6 := .string BS) (turn_below HT2.out hb5) (by omega))
  clear kz HZ2 HF2 HK2 HY2 HA2 HT2 hbv hb5 z0 z1 z2 z3 z4 z5 z6 g0 g1 g2 g3 g4 g5 g6 FB
  generalize (((((((w5.setCell ⟨z, 0, none⟩ (.int .i64 8)).setCell ⟨z, 1, none⟩ (.slice bA 0 bc)).setCell ⟨z, 2, none⟩ (.int .u32 0)).setCell ⟨z, 3, none⟩ (.int .i64 0)).setCell ⟨z, 4, none⟩ (.string ⟨#[]⟩)).setCell ⟨z, 5, none⟩ (.bool false)).setCell ⟨z, 6, none⟩ (.string BS)) = w3 at *
  have e2 : w3.cell? ⟨b, 2, none⟩ = some (.int .i64 s.c.kind) := HA3.out.cell 2
  have e1 : w3.cell? ⟨b, 1, none⟩ = some (.slice A0 n0 c0) := HA3.out.cell 1
  have e3 : w3.cell? ⟨b, 3, none⟩ = some (.slice kA kn kc) := HA3.out.cell 3
  have e4 : w3.cell? ⟨b, 4, none⟩ = some (.int .u32 s.c.fl) := HA3.out.cell 4
  have e5 : w3.cell? ⟨b, 5, none⟩ = some (.int .i64 s.c.ex) := HA3.out.cell 5
  have e6 : w3.cell? ⟨b, 6, none⟩ = some (.string s.c.body) := HA3.out.cell 6
  have e7 : w3.cell? ⟨b, 7, none⟩ = some (.bool s.c.quiet) := HA3.out.cell 7
  have e8 : w3.cell? ⟨b, 8, none⟩ = some (.string s.c.reply) := HA3.out.cell 8
  have f1 := HA3.out.free 1
  have f2 := HA3.out.free 2
  have f3 := HA3.out.free 3
  have f4 := HA3.out.free 4
  have f5 := HA3.out.free 5
  have f6 := HA3.out.free 6
  have f7 := HA3.out.free 7
  have f8 := HA3.out.free 8
  go_upto_region 11 with (fail)
  have HF4 := Lib.hid (by
    obtain ⟨kv', ha', hr', hk'⟩ := HF3.out
    exact feed_strike (v1 := .int .i64 0) (v2 := .slice none 0 0) (v3 := .int .u32 0) (v4 := .int .i64 0) (v5 := .string ⟨#[]⟩) (v6 := .bool false) (v7 := .string ⟨#[]⟩) HF3.out (R_cut0 hr' HN0.out) (cut0_own A0 n0 c0) rfl rfl rfl rfl rfl rfl rfl)
  have kb : Chg (fun i => i = b) w3 ((((((((w3.setCell ⟨b, 1, none⟩ (.slice A0 0 c0)).setCell ⟨b, 2, none⟩ (.int .i64 0)).setCell ⟨b, 3, none⟩ (.slice none 0 0)).setCell ⟨b, 4, none⟩ (.int .u32 0)).setCell ⟨b, 5, none⟩ (.int .i64 0)).setCell ⟨b, 6, none⟩ (.string ⟨#[]⟩)).setCell ⟨b, 7, none⟩ (.bool false)).setCell ⟨b, 8, none⟩ (.string ⟨#[]⟩)) := chg_set (chg_set (chg_set (chg_set (chg_set (chg_set (chg_set (chg_set (chg_refl _ _) rfl) rfl) rfl) rfl) rfl) rfl) rfl) rfl
  have hbz : z ≠ b := by omega
  have hby : w.heap.size ≠ b := by omega
  have HZ4 := Lib.hid (show At ((((((((w3.setCell ⟨b, 1, none⟩ (.slice A0 0 c0)).setCell ⟨b, 2, none⟩ (.int .i64 0)).setCell ⟨b, 3, none⟩ (.slice none 0 0)).setCell ⟨b, 4, none⟩ (.int .u32 0)).setCell ⟨b, 5, none⟩ (.int .i64 0)).setCell ⟨b, 6, none⟩ (.string ⟨#[]⟩)).setCell ⟨b, 7, none⟩ (.bool false)).setCell ⟨b, 8, none⟩ (.string ⟨#[]⟩)) z #[.int .i64 8, .slice bA 0 bc, .int .u32 0, .int .i64 0, .string ⟨#[]⟩, .bool false, .string BS] 28 from (kb.block z HZ3.out.lt hbz).trans HZ3.out)
  have HY4 := Lib.hid (show At ((((((((w3.setCell ⟨b, 1, none⟩ (.slice A0 0 c0)).setCell ⟨b, 2, none⟩ (.int .i64 0)).setCell ⟨b, 3, none⟩ (.slice none 0 0)).setCell ⟨b, 4, none⟩ (.int .u32 0)).setCell ⟨b, 5, none⟩ (.int .i64 0)).setCell ⟨b, 6, none⟩ (.string ⟨#[]⟩)).setCell ⟨b, 7, none⟩ (.bool false)).setCell ⟨b, 8, none⟩ (.string ⟨#[]⟩)) w.heap.size Z7 28 from (kb.block _ HY3.out.lt hby).trans HY3.out)
  have HK4 := Lib.hid (keys_res HK3.out HA3.out (by decide) kb)
  have HT4 := Lib.hid (show Turn b (.slice A0 n0 c0) w ((((((((w3.setCell ⟨b, 1, none⟩ (.slice A0 0 c0)).setCell ⟨b, 2, none⟩ (.int .i64 0)).setCell ⟨b, 3, none⟩ (.slice none 0 0)).setCell ⟨b, 4, none⟩ (.int .u32 0)).setCell ⟨b, 5, none⟩ (.int .i64 0)).setCell ⟨b, 6, none⟩ (.string ⟨#[]⟩)).setCell ⟨b, 7, none⟩ (.bool false)).setCell ⟨b, 8, none⟩ (.string ⟨#[]⟩)) from turn_set (turn_set (turn_set (turn_set (turn_set (turn_set (turn_set (turn_set HT3.out))))))))
  clear kb HZ3 HY3 HK3 HT3 HF3 HA3 e1 e2 e3 e4 e5 e6 e7 e8 f1 f2 f3 f4 f5 f6 f7 f8
  generalize ((((((((w3.setCell ⟨b, 1, none⟩ (.slice A0 0 c0)).setCell ⟨b, 2, none⟩ (.int .i64 0)).setCell ⟨b, 3, none⟩ (.slice none 0 0)).setCell ⟨b, 4, none⟩ (.int .u32 0)).setCell ⟨b, 5, none⟩ (.int .i64 0)).setCell ⟨b, 6, none⟩ (.string ⟨#[]⟩)).setCell ⟨b, 7, none⟩ (.bool false)).setCell ⟨b, 8, none⟩ (.string ⟨#[]⟩)) = w4 at *
  obtain ⟨kv4, ha4, hr4, hk4⟩ := HF4.out
  have HA4 := Lib.hid ha4
  have HR4 := Lib.hid hr4
  have HKV4 := Lib.hid hk4
  clear ha4 hr4 hk4 HF4
  have e0 : w4.cell? ⟨b, 0, none⟩ = some (.func (.func (modeF s.mode)) #[.pointer (some ⟨b, 0, none⟩)] #[]) := HA4.out.cell 0
  have f0 := HA4.out.free 0
  go_upto_region 12 with (fail)
  have kb : Chg (fun i => i = b) w4 (w4.setCell ⟨b, 0, none⟩ (.func (.func 14) #[.pointer (some ⟨b, 0, none⟩)] #[])) := chg_set (chg_refl _ _) rfl
  have HF5 := Lib.hid (feed_upd (s' := endS s) HA4.out HR4.out HKV4.out kb (at_set' HA4.out rfl) rfl rfl)
  have HZ5 := Lib.hid (show At (w4.setCell ⟨b, 0, none⟩ (.func (.func 14) #[.pointer (some ⟨b, 0, none⟩)] #[])) z #[.int .i64 8, .slice bA 0 bc, .int .u32 0, .int .i64 0, .string ⟨#[]⟩, .bool false, .string BS] 28 from (kb.block z HZ4.out.lt hbz).trans HZ4.out)
  have HY5 := Lib.hid (show At (w4.setCell ⟨b, 0, none⟩ (.func (.func 14) #[.pointer (some ⟨b, 0, none⟩)] #[])) w.heap.size Z7 28 from (kb.block _ HY4.out.lt hby).trans HY4.out)
  have HK5 := Lib.hid (keys_res HK4.out HA4.out (by decide) kb)
  have HT5 := Lib.hid (turn_set (i := 0) (v := .func (.func 14) #[.pointer (some ⟨b, 0, none⟩)] #[]) HT4.out)
  clear kb HZ4 HY4 HK4 HT4 HA4 HR4 HKV4 e0 f0
  generalize w4.setCell ⟨b, 0, none⟩ (.func (.func 14) #[.pointer (some ⟨b, 0, none⟩)] #[]) = w6 at *
  obtain ⟨q0, q1, q2, q3, q4, q5, q6, r0, r1, r2, r3, r4, r5, r6⟩ := at7 (show At w6 w.heap.size #[.int .i64 0, .slice none 0 0, .int .u32 0, .int .i64 0, .string ⟨#[]⟩, .bool false, .string ⟨#[]⟩] 28 from HY5.out)
  obtain ⟨t0, t1, t2, t3, t4, t5, t6, -⟩ := at7 HZ5.out
  go_wp2_with (fail)
  refine bodyPost_ret (results_ct (p := 4) (u := 5) (ty := 28) (fn := Tryd.f25) ?h0 _ _ w.heap.size 28 #[.int .i64 8, .slice bA 0 bc, .int .u32 0, .int .i64 0, .string ⟨#[]⟩, .bool false, .string BS] (0, 0) _ ?h1 ?h2 Tryd.underlying28 rfl (by kernel_rfl)) ?h3 ?h4
  case h0 => rfl
  case h1 => rfl
  case h2 => exact at_put7 HY5.out
  case h3 => rfl
  case h4 => exact ⟨.slice A0 0 c0, .slice bA 0 bc, by rw [HBS.out]; rfl, keys_res HK5.out HY5.out (by decide) (chg_set7 (chg_refl _ _)), feed_res HF5.out HY5.out (chg_set7 (chg_refl _ _)), turn_new7 HT5.out (Nat.le_refl _), .inl (cut0_own A0 n0 c0)⟩
set_option maxRecDepth 100000 in
set_option maxHeartbeats 3200000 in
theorem end_b2 (b : Nat) (s : St) (hv : Value) (w : World) (h : FeedAt w b s hv) (hl : s.held.length ≤ 100000) (h1 : (s.tail != 1) = false) (h2 : s.cr = false) :
    Calls Tryd.prog 25 #[.pointer (some ⟨b, 0, none⟩), .int .u8 10] w (StepsTo b hv w (endS s) (badC badDataB) (s.c.kind != 8)) := by
  obtain ⟨kv, ha, hr, hk⟩ := h
  have HL := Lib.hid hl
  obtain ⟨A0, c0, ev⟩ := Kd.R_slice hr
  obtain ⟨n0, hn0⟩ : ∃ n, n = s.held.length := ⟨_, rfl⟩
  rw [← hn0] at ev
  have HN0 := Lib.hid hn0
  clear hn0
  subst ev
  go_enter Tryd.func25, Tryd.ntmps25
  go_upto_region 1 with (fail)
  have HA := Lib.hid (at_alloc (o := .cells Z7 28) ha)
  have HR1 := Lib.hid (Kd.R_alloc hr (.cells Z7 28))
  have HK := Lib.hid (keys_below hk (below_alloc (Below.refl _ _) (.cells Z7 28)))
  have HY := Lib.hid (at_new w Z7 28)
  have HT := Lib.hid (turn_below (turn_refl b (.slice A0 n0 c0) w) (below_alloc (Below.refl _ _) (.cells Z7 28)))
  have hsz : w.heap.size < (w.alloc (.cells Z7 28)).heap.size := by rw [World.size_alloc]; omega
  have hb := ha.lt
  clear ha hr hk hl
  unfold Z7 at HA HR1 HK HY HT hsz
  generalize w.alloc (.cells #[.int .i64 0, .slice none 0 0, .int .u32 0, .int .i64 0, .string ⟨#[]⟩, .bool false, .string ⟨#[]⟩] 28) = w0 at *
  replace HY : Hid (At w0 w.heap.size Z7 28) := HY
  have c2 : w0.cell? ⟨b, 2, none⟩ = some (.int .i64 s.c.kind) := HA.out.cell 2
  have c3 : w0.cell? ⟨b, 3, none⟩ = some kv := HA.out.cell 3
  have c4 : w0.cell? ⟨b, 4, none⟩ = some (.int .u32 s.c.fl) := HA.out.cell 4
  have c5 : w0.cell? ⟨b, 5, none⟩ = some (.int .i64 s.c.ex) := HA.out.cell 5
  have c6 : w0.cell? ⟨b, 6, none⟩ = some (.string s.c.body) := HA.out.cell 6
  have c7 : w0.cell? ⟨b, 7, none⟩ = some (.bool s.c.quiet) := HA.out.cell 7
  have c8 : w0.cell? ⟨b, 8, none⟩ = some (.string s.c.reply) := HA.out.cell 8
  obtain ⟨kA, kc, ek, -⟩ := Kd.Q_slice HK.out
  obtain ⟨kn, hkn⟩ : ∃ n, n = s.c.keys.length := ⟨_, rfl⟩
  rw [← hkn] at ek
  clear hkn
  subst ek
  go_upto_region 6 with (fail)
  have hbw := HA.out.lt
  have hyw := HY.out.lt
  have HZ1 := Lib.hid (at_new w0 #[.int .i64 s.c.kind, .slice kA kn kc, .int .u32 s.c.fl, .int .i64 s.c.ex, .string s.c.body, .bool s.c.quiet, .string s.c.reply] 28)
  have HA1 := Lib.hid (at_alloc (o := .cells #[.int .i64 s.c.kind, .slice kA kn kc, .int .u32 s.c.fl, .int .i64 s.c.ex, .string s.c.body, .bool s.c.quiet, .string s.c.reply] 28) HA.out)
  have HR2 := Lib.hid (Kd.R_alloc HR1.out (.cells #[.int .i64 s.c.kind, .slice kA kn kc, .int .u32 s.c.fl, .int .i64 s.c.ex, .string s.c.body, .bool s.c.quiet, .string s.c.reply] 28))
  have HK1 := Lib.hid (keys_below HK.out (below_alloc (Below.refl _ _) (.cells #[.int .i64 s.c.kind, .slice kA kn kc, .int .u32 s.c.fl, .int .i64 s.c.ex, .string s.c.body, .bool s.c.quiet, .string s.c.reply] 28)))
  have HY1 := Lib.hid (at_alloc (o := .cells #[.int .i64 s.c.kind, .slice kA kn kc, .int .u32 s.c.fl, .int .i64 s.c.ex, .string s.c.body, .bool s.c.quiet, .string s.c.reply] 28) HY.out)
  have HT1 := Lib.hid (turn_below HT.out (below_alloc (Below.refl _ _) (.cells #[.int .i64 s.c.kind, .slice kA kn kc, .int .u32 s.c.fl, .int .i64 s.c.ex, .string s.c.body, .bool s.c.quiet, .string s.c.reply] 28)))
  clear HA HR1 HK HY HT c2 c3 c4 c5 c6 c7 c8
  generalize w0.alloc (.cells #[.int .i64 s.c.kind, .slice kA kn kc, .int .u32 s.c.fl, .int .i64 s.c.ex, .string s.c.body, .bool s.c.quiet, .string s.c.reply] 28) = w1 at *
  generalize w0.heap.size = z at *
  have hcv := held_string HR2.out HN0.out
  have c1 : w1.cell? ⟨b, 1, none⟩ = some (.slice A0 n0 c0) := HA1.out.cell 1
  have z4 := HZ1.out.cell 4
  have g4 := HZ1.out.free 4
  go_upto_region 7 with (fail)
  have HZ2 := Lib.hid (show At (w1.setCell ⟨z, 4, none⟩ (.string (strOfNums s.held))) z #[.int .i64 s.c.kind, .slice kA kn kc, .int .u32 s.c.fl, .int .i64 s.c.ex, .string (strOfNums s.held), .bool s.c.quiet, .string s.c.reply] 28 from at_set' HZ1.out rfl)
  have HF2 := Lib.hid (feed_res (s := s) (hv := .slice A0 n0 c0) ⟨_, HA1.out, HR2.out, HK1.out⟩ HZ1.out (chg_set (i := 4) (v := .string (strOfNums s.held)) (chg_refl _ _) rfl))
  have HK2 := Lib.hid (keys_keep HK1.out (fun j cells hc => (chg_set (S := fun i => i = z) (b := z) (i := 4) (v := .string (strOfNums s.held)) (chg_refl _ w1) rfl).block j (Array.getElem?_eq_some_iff.1 hc).1 (fun e => by
    have h1 := HZ1.out
    unfold At at h1
    rw [e, h1] at hc
    injection hc with hc
    injection hc with _ ht
    cases ht)))
  have HY2 := Lib.hid (show At (w1.setCell ⟨z, 4, none⟩ (.string (strOfNums s.held))) w.heap.size Z7 28 from at_set_ne HY1.out (by omega))
  have HT2 := Lib.hid (turn_new (b' := z) (i := 4) (v := .string (strOfNums s.held)) HT1.out (by omega))
  have HA2 := Lib.hid (show At (w1.setCell ⟨z, 4, none⟩ (.string (strOfNums s.held))) b (feedA b s (.slice A0 n0 c0) (.slice kA kn kc)) 42 from at_set_ne HA1.out (by omega))
  clear HZ1 HA1 HR2 HK1 HY1 HT1 hcv c1 z4 g4
  generalize w1.setCell ⟨z, 4, none⟩ (.string (strOfNums s.held)) = w2 at *
  have c10 : w2.cell? ⟨b, 10, none⟩ = some (.int .i64 s.tail) := HA2.out.cell 10
  have c11 : w2.cell? ⟨b, 11, none⟩ = some (.bool s.cr) := HA2.out.cell 11
  rw [h2] at c11
  obtain ⟨BS, hBS⟩ : ∃ x, x = badDataB ++ crlfB := ⟨_, rfl⟩
  have fb := fun w => fbad badDataB (by decide) w
  unfold cmV badC at fb
  simp only [← hBS] at fb
  unfold badDataB at fb
  have FB := Lib.hid fb
  have HBS := Lib.hid hBS
  clear fb hBS
  go_upto_region 8 with (fail)
  clear c10 c11
  go_upto_region 9 with ((with_reducible refine (FB.out _).mono ?_); rintro e w5 ⟨bv, rfl, hbv, hb5⟩; obtain ⟨bA, bc, ebv, -⟩ := Kd.Q_slice hbv; subst ebv; have z0' := at7 (at_below HZ2.out hb5); obtain ⟨z0, z1, z2, z3, z4, z5, z6, g0, g1, g2, g3, g4, g5, g6⟩ := z0')
  have kz : Chg (fun i => i = z) w5 (((((((w5.setCell ⟨z, 0, none⟩ (.int .i64 8)).setCell ⟨z, 1, none⟩ (.slice bA 0 bc)).setCell ⟨z, 2, none⟩ (.int .u32 0)).setCell ⟨z, 3, none⟩ (.int .i64 0)).setCell ⟨z, 4, none⟩ (.string ⟨#[]⟩)).setCell ⟨z, 5, none⟩ (.bool false)).setCell ⟨z, 6, none⟩ (.string BS)) := chg_set7 (chg_refl _ _)
  have HZ3 := Lib.hid (at_put7 (a0 := .int .i64 8) (a1 := .slice bA 0 bc) (a2 := .int .u32 0) (a3 := .int .i64 0) (a4 := .string ⟨#[]⟩) (a5 := .bool false) (a6 := .string BS) (at_below HZ2.out hb5))
  have HF3 := Lib.hid (feed_res (feed_below HF2.out hb5) (at_below HZ2.out hb5) kz)
  have HK3 := Lib.hid (keys_res hbv (at_below HZ2.out hb5) (by decide) kz)
  have HY3 := Lib.hid (at_ne7 (v0 := .int .i64 8) (v1 := .slice bA 0 bc) (v2 := .int .u32 0) (v3 := .int .i64 0) (v4 := .string ⟨#[]⟩) (v5 := .bool false) (v6 := .string BS) (at_below HY2.out hb5) (show w.heap.size ≠ z by omega))
  have HA3 := Lib.hid (at_ne7 (v0 := .int .i64 8) (v1 := .slice bA 0 bc) (v2 := .int .u32 0) (v3 := .int .i64 0) (v4 := .string ⟨#[]⟩) (v5 := .bool false) (v6 := .string BS) (at_below HA2.out hb5) (show b ≠ z by omega))
  have HT3 := Lib.hid (turn_new7 (y := z) (v0 := .int .i64 8) (v1 := .slice bA 0 bc) (v2 := .int .u32 0) (v3 := .int .i64 0) (v4 := .string ⟨#[]⟩) (v5 := .bool false) (v6 := .string BS) (turn_below HT2.out hb5) (by omega))
  clear kz HZ2 HF2 HK2 HY2 HA2 HT2 hbv hb5 z0 z1 z2 z3 z4 z5 z6 g0 g1 g2 g3 g4 g5 g6 FB
  generalize (((((((w5.setCell ⟨z, 0, none⟩ (.int .i64 8)).setCell ⟨z, 1, none⟩ (.slice bA 0 bc)).setCell ⟨z, 2, none⟩ (.int .u32 0)).setCell ⟨z, 3, none⟩ (.int .i64 0)).setCell ⟨z, 4, none⟩ (.string ⟨#[]⟩)).setCell ⟨z, 5, none⟩ (.bool false)).setCell ⟨z, 6, none⟩ (.string BS)) = w3 at *
  have e2 : w3.cell? ⟨b, 2, none⟩ = some (.int .i64 s.c.kind) := HA3.out.cell 2
  have e1 : w3.cell? ⟨b, 1, none⟩ = some (.slice A0 n0 c0) := HA3.out.cell 1
  have e3 : w3.cell? ⟨b, 3, none⟩ = some (.slice kA kn kc) := HA3.out.cell 3
  have e4 : w3.cell? ⟨b, 4, none⟩ = some (.int .u32 s.c.fl) := HA3.out.cell 4
  have e5 : w3.cell? ⟨b, 5, none⟩ = some (.int .i64 s.c.ex) := HA3.out.cell 5
  have e6 : w3.cell? ⟨b, 6, none⟩ = some (.string s.c.body) := HA3.out.cell 6
  have e7 : w3.cell? ⟨b, 7, none⟩ = some (.bool s.c.quiet) := HA3.out.cell 7
  have e8 : w3.cell? ⟨b, 8, none⟩ = some (.string s.c.reply) := HA3.out.cell 8
  have f1 := HA3.out.free 1
  have f2 := HA3.out.free 2
  have f3 := HA3.out.free 3
  have f4 := HA3.out.free 4
  have f5 := HA3.out.free 5
  have f6 := HA3.out.free 6
  have f7 := HA3.out.free 7
  have f8 := HA3.out.free 8
  go_upto_region 11 with (fail)
  have HF4 := Lib.hid (by
    obtain ⟨kv', ha', hr', hk'⟩ := HF3.out
    exact feed_strike (v1 := .int .i64 0) (v2 := .slice none 0 0) (v3 := .int .u32 0) (v4 := .int .i64 0) (v5 := .string ⟨#[]⟩) (v6 := .bool false) (v7 := .string ⟨#[]⟩) HF3.out (R_cut0 hr' HN0.out) (cut0_own A0 n0 c0) rfl rfl rfl rfl rfl rfl rfl)
  have kb : Chg (fun i => i = b) w3 ((((((((w3.setCell ⟨b, 1, none⟩ (.slice A0 0 c0)).setCell ⟨b, 2, none⟩ (.int .i64 0)).setCell ⟨b, 3, none⟩ (.slice none 0 0)).setCell ⟨b, 4, none⟩ (.int .u32 0)).setCell ⟨b, 5, none⟩ (.int .i64 0)).setCell ⟨b, 6, none⟩ (.string ⟨#[]⟩)).setCell ⟨b, 7, none⟩ (.bool false)).setCell ⟨b, 8, none⟩ (.string ⟨#[]⟩)) := chg_set (chg_set (chg_set (chg_set (chg_set (chg_set (chg_set (chg_set (chg_refl _ _) rfl) rfl) rfl) rfl) rfl) rfl) rfl) rfl
  have hbz : z ≠ b := by omega
  have hby : w.heap.size ≠ b := by omega
  have HZ4 := Lib.hid (show At ((((((((w3.setCell ⟨b, 1, none⟩ (.slice A0 0 c0)).setCell ⟨b, 2, none⟩ (.int .i64 0)).setCell ⟨b, 3, none⟩ (.slice none 0 0)).setCell ⟨b, 4, none⟩ (.int .u32 0)).setCell ⟨b, 5, none⟩ (.int .i64 0)).setCell ⟨b, 6, none⟩ (.string ⟨#[]⟩)).setCell ⟨b, 7, none⟩ (.bool false)).setCell ⟨b, 8, none⟩ (.string ⟨#[]⟩)) z #[.int .i64 8, .slice bA 0 bc, .int .u32 0, .int .i64 0, .string ⟨#[]⟩, .bool false, .string BS] 28 from (kb.block z HZ3.out.lt hbz).trans HZ3.out)
  have HY4 := Lib.hid (show At ((((((((w3.setCell ⟨b, 1, none⟩ (.slice A0 0 c0)).setCell ⟨b, 2, none⟩ (.int .i64 0)).setCell ⟨b, 3, none⟩ (.slice none 0 0)).setCell ⟨b, 4, none⟩ (.int .u32 0)).setCell ⟨b, 5, none⟩ (.int .i64 0)).setCell ⟨b, 6, none⟩ (.string ⟨#[]⟩)).setCell ⟨b, 7, none⟩ (.bool false)).setCell ⟨b, 8, none⟩ (.string ⟨#[]⟩)) w.heap.size Z7 28 from (kb.block _ HY3.out.lt hby).trans HY3.out)
  have HK4 := Lib.hid (keys_res HK3.out HA3.out (by decide) kb)
  have HT4 := Lib.hid (show Turn b (.slice A0 n0 c0) w ((((((((w3.setCell ⟨b, 1, none⟩ (.slice A0 0 c0)).setCell ⟨b, 2, none⟩ (.int .i64 0)).setCell ⟨b, 3, none⟩ (.slice none 0 0)).setCell ⟨b, 4, none⟩ (.int .u32 0)).setCell ⟨b, 5, none⟩ (.int .i64 0)).setCell ⟨b, 6, none⟩ (.string ⟨#[]⟩)).setCell ⟨b, 7, none⟩ (.bool false)).setCell ⟨b, 8, none⟩ (.string ⟨#[]⟩)) from turn_set (turn_set (turn_set (turn_set (turn_set (turn_set (turn_set (turn_set HT3.out))))))))
  clear kb HZ3 HY3 HK3 HT3 HF3 HA3 e1 e2 e3 e4 e5 e6 e7 e8 f1 f2 f3 f4 f5 f6 f7 f8
  generalize ((((((((w3.setCell ⟨b, 1, none⟩ (.slice A0 0 c0)).setCell ⟨b, 2, none⟩ (.int .i64 0)).setCell ⟨b, 3, none⟩ (.slice none 0 0)).setCell ⟨b, 4, none⟩ (.int .u32 0)).setCell ⟨b, 5, none⟩ (.int .i64 0)).setCell ⟨b, 6, none⟩ (.string ⟨#[]⟩)).setCell ⟨b, 7, none⟩ (.bool false)).setCell ⟨b, 8, none⟩ (.string ⟨#[]⟩)) = w4 at *
  obtain ⟨kv4, ha4, hr4, hk4⟩ := HF4.out
  have HA4 := Lib.hid ha4
  have HR4 := Lib.hid hr4
  have HKV4 := Lib.hid hk4
  clear ha4 hr4 hk4 HF4
  have e0 : w4.cell? ⟨b, 0, none⟩ = some (.func (.func (modeF s.mode)) #[.pointer (some ⟨b, 0, none⟩)] #[]) := HA4.out.cell 0
  have f0 := HA4.out.free 0
  go_upto_region 12 with (fail)
  have kb : Chg (fun i => i = b) w4 (w4.setCell ⟨b, 0, none⟩ (.func (.func 14) #[.pointer (some ⟨b, 0, none⟩)] #[])) := chg_set (chg_refl _ _) rfl
  have HF5 := Lib.hid (feed_upd (s' := endS s) HA4.out HR4.out HKV4.out kb (at_set' HA4.out rfl) rfl rfl)
  have HZ5 := Lib.hid (show At (w4.setCell ⟨b, 0, none⟩ (.func (.func 14) #[.pointer (some ⟨b, 0, none⟩)] #[])) z #[.int .i64 8, .slice bA 0 bc, .int .u32 0, .int .i64 0, .string ⟨#[]⟩, .bool false, .string BS] 28 from (kb.block z HZ4.out.lt hbz).trans HZ4.out)
  have HY5 := Lib.hid (show At (w4.setCell ⟨b, 0, none⟩ (.func (.func 14) #[.pointer (some ⟨b, 0, none⟩)] #[])) w.heap.size Z7 28 from (kb.block _ HY4.out.lt hby).trans HY4.out)
  have HK5 := Lib.hid (keys_res HK4.out HA4.out (by decide) kb)
  have HT5 := Lib.hid (turn_set (i := 0) (v := .func (.func 14) #[.pointer (some ⟨b, 0, none⟩)] #[]) HT4.out)
  clear kb HZ4 HY4 HK4 HT4 HA4 HR4 HKV4 e0 f0
  generalize w4.setCell ⟨b, 0, none⟩ (.func (.func 14) #[.pointer (some ⟨b, 0, none⟩)] #[]) = w6 at *
  obtain ⟨q0, q1, q2, q3, q4, q5, q6, r0, r1, r2, r3, r4, r5, r6⟩ := at7 (show At w6 w.heap.size #[.int .i64 0, .slice none 0 0, .int .u32 0, .int .i64 0, .string ⟨#[]⟩, .bool false, .string ⟨#[]⟩] 28 from HY5.out)
  obtain ⟨t0, t1, t2, t3, t4, t5, t6, -⟩ := at7 HZ5.out
  go_wp2_with (fail)
  refine bodyPost_ret (results_ct (p := 4) (u := 5) (ty := 28) (fn := Tryd.f25) ?h0 _ _ w.heap.size 28 #[.int .i64 8, .slice bA 0 bc, .int .u32 0, .int .i64 0, .string ⟨#[]⟩, .bool false, .string BS] (0, 0) _ ?h1 ?h2 Tryd.underlying28 rfl (by kernel_rfl)) ?h3 ?h4
  case h0 => rfl
  case h1 => rfl
  case h2 => exact at_put7 HY5.out
  case h3 => rfl
  case h4 => exact ⟨.slice A0 0 c0, .slice bA 0 bc, by rw [HBS.out]; rfl, keys_res HK5.out HY5.out (by decide) (chg_set7 (chg_refl _ _)), feed_res HF5.out HY5.out (chg_set7 (chg_refl _ _)), turn_new7 HT5.out (Nat.le_refl _), .inl (cut0_own A0 n0 c0)⟩
theorem end_any (b : Nat) (s : St) (hv : Value) (x : Int) (w : World) (h : FeedAt w b s hv) (hl : s.held.length ≤ 100000) (ht : 0 ≤ s.tail ∧ s.tail ≤ 100) :
    Calls Tryd.prog 25 #[.pointer (some ⟨b, 0, none⟩), .int .u8 x] w (StepsTo b hv w (if x = 10 then endS s else tailS s x) (if x = 10 then endC s else cm0) (if x = 10 then s.c.kind != 8 else false)) := by
  by_cases hx : x = 10
  · subst hx
    rw [if_pos rfl, if_pos rfl, if_pos rfl]
    unfold endC
    by_cases h1 : s.tail = 1
    · have e1 : (s.tail != 1) = false := by rw [h1]; rfl
      cases h2 : s.cr with
      | true => rw [if_pos (by rw [h1]; rfl)]; exact end_ok b s hv w h hl e1 h2
      | false => rw [if_neg (by simp)]; exact end_b2 b s hv w h hl e1 h2
    · rw [if_neg (by simp [h1])]
      exact end_b1 b s hv w h hl (bne_iff_ne.2 h1)
  · rw [if_neg hx, if_neg hx, if_neg hx]
    exact end_no b s hv x w h hl ht hx
end Go.Proofs.YthinmioognadpaaDoor.Feed

/- line: one byte that ends no line (own text; written by wip/tools/gen_feedline.py). -/
namespace Go.Proofs.YthinmioognadpaaDoor.Feed
open Go.RowKit Go.Proofs.YthinmioognadpaaDoor.Mem Go.Proofs.YthinmioognadpaaDoorW.PrintWords Go.Proofs.YthinmioognadpaaDoorW.PrintLast Go.Proofs.YthinmioognadpaaDoorW.PrintMore
set_option linter.unusedVariables false
set_option linter.unusedSimpArgs false
def longB : ByteArray := ⟨#[67, 76, 73, 69, 78, 84, 95, 69, 82, 82, 79, 82, 32, 108, 105, 110, 101, 32, 116, 111, 111, 32, 108, 111, 110, 103]⟩
set_option maxRecDepth 100000 in
set_option maxHeartbeats 3200000 in
theorem line_short (b : Nat) (s : St) (hv : Value) (x : Int) (w : World) (h : FeedAt w b s hv) (hl : s.held.length ≤ 100000) (hx : x ≠ 10) (h48 : s.held.length < 2048) :
    Calls Tryd.prog 14 #[.pointer (some ⟨b, 0, none⟩), .int .u8 x] w (StepsTo b hv w { s with held := s.held ++ [x] } cm0 false) := by
  obtain ⟨kv, ha, hr, hk⟩ := h
  have hx0 : (x == 10) = false := beq_eq_false_iff_ne.2 hx
  have hx1 : (x != 10) = true := bne_iff_ne.2 hx
  clear hx
  have HL := Lib.hid hl
  obtain ⟨A0, c0, ev⟩ := Kd.R_slice hr
  obtain ⟨n0, hn0⟩ : ∃ n, n = s.held.length := ⟨_, rfl⟩
  rw [← hn0] at ev
  have HN0 := Lib.hid hn0
  clear hn0
  subst ev
  go_enter Tryd.func14, Tryd.ntmps14
  go_upto_region 1 with (fail)
  have HA := Lib.hid (at_alloc (o := .cells Z7 28) ha)
  have HR1 := Lib.hid (Kd.R_alloc hr (.cells Z7 28))
  have HK := Lib.hid (keys_below hk (below_alloc (Below.refl _ _) (.cells Z7 28)))
  have HY := Lib.hid (at_new w Z7 28)
  have HT := Lib.hid (turn_below (turn_refl b (.slice A0 n0 c0) w) (below_alloc (Below.refl _ _) (.cells Z7 28)))
  have hsz : w.heap.size < (w.alloc (.cells Z7 28)).heap.size := by rw [World.size_alloc]; omega
  have hb := ha.lt
  clear ha hr hk hl
  unfold Z7 at HA HR1 HK HY HT hsz
  generalize w.alloc (.cells #[.int .i64 0, .slice none 0 0, .int .u32 0, .int .i64 0, .string ⟨#[]⟩, .bool false, .string ⟨#[]⟩] 28) = w0 at *
  replace HY : Hid (At w0 w.heap.size Z7 28) := HY
  have H48 := Lib.hid h48
  clear h48
  have c1 : w0.cell? ⟨b, 1, none⟩ = some (.slice A0 n0 c0) := HA.out.cell 1
  go_upto_region 3 with (first
    | ((with_reducible refine gate_dst (N := 19) rfl ?_); refine Kd.R_append (Kd.int .u8) (w0 := w0) 0 (by rfl) (.tmp 16) (.tmp 18) 38 5 (.int .u8 0) 1 rfl Tryd.underlying38 infoU8 rfl (by decide) (by omega) (.slice A0 n0 c0) s.held x [.int .u8 x] (fun _ => True) (fun _ => False) rfl rfl ?aP (fun _ hk => hk.elim) ?aF ?aO ?aB ?aS ?aL ?_; (case aP => exact rfl); (case aF => exact (fun _ _ => trivial)); (case aO => exact HR1.out); (case aB => exact Below.refl 0 _); (case aS => exact Nat.zero_le _); (case aL => have := HL.out; omega); intro v1 w1 ho hb4 hg4 hat; have HA1 := Lib.hid (show At w1 b (feedA b s (.slice A0 n0 c0) kv) 42 from (hg4.block _ HA.out.lt (own_ne HA.out HR1.out)).trans HA.out); have HY1 := Lib.hid (show At w1 w.heap.size Z7 28 from (hg4.block _ HY.out.lt (Kd.R_ne HR1.out HY.out (by decide))).trans HY.out); have HK1 := Lib.hid (keys_keep HK.out (fun j cells hc => hg4.block j (Array.getElem?_eq_some_iff.1 hc).1 (Kd.R_ne HR1.out hc (by decide)))); have HT1 := Lib.hid (turn_grown HT.out hg4); have HV1 := Lib.hid ho; have HAT := Lib.hid (show v1.ownBlock = (Value.slice A0 n0 c0).ownBlock ∨ ∃ k, v1.ownBlock = some k ∧ w.heap.size ≤ k from hat.imp id (fun ⟨k, h1, h2⟩ => ⟨k, h1, by omega⟩)); clear ho hb4 hg4 hat; obtain ⟨A9, c9, ev⟩ := Kd.R_slice HV1.out; obtain ⟨q9, hq9⟩ : ∃ q, q = (s.held ++ [x]).length := ⟨_, rfl⟩; rw [← hq9] at ev; have HQ9 := Lib.hid hq9; clear hq9; subst ev; have d0 : w1.cell? ⟨b, 1, none⟩ = some (.slice A0 n0 c0) := HA1.out.cell 1; have d1 := HA1.out.free 1))
  have HA2 := Lib.hid (show At (w1.setCell ⟨b, 1, none⟩ (.slice A9 q9 c9)) b (feedA b { s with held := s.held ++ [x] } (.slice A9 q9 c9) kv) 42 from at_set' HA1.out rfl)
  have HY2 := Lib.hid (show At (w1.setCell ⟨b, 1, none⟩ (.slice A9 q9 c9)) w.heap.size Z7 28 from at_set_ne HY1.out (by omega))
  have kc : Chg (fun i => i = b) w1 (w1.setCell ⟨b, 1, none⟩ (.slice A9 q9 c9)) := chg_set (chg_refl _ _) rfl
  have HK2 := Lib.hid (keys_keep HK1.out (fun j cells hc => kc.block j (Array.getElem?_eq_some_iff.1 hc).1 (keys_own HA1.out hc)))
  have HV2 := Lib.hid (Kd.R_mono (Kd.R_step (Kd.R_tight rfl HV1.out) (fun j hj hlt => kc.block j hlt (fun e => by
    obtain ⟨cells', hc'⟩ := Kd.R_typed HV1.out j hj.symm
    have h1 := HA1.out
    unfold At at h1
    rw [e, h1] at hc'
    injection hc' with hc'
    injection hc' with _ ht
    cases ht))) (fun _ _ => trivial))
  have HT2 := Lib.hid (turn_set (i := 1) (v := .slice A9 q9 c9) HT1.out)
  clear HA1 HY1 HK1 HV1 HT1 kc d0 d1 c1 HA HR1 HK HY HT
  generalize w1.setCell ⟨b, 1, none⟩ (.slice A9 q9 c9) = w2 at *
  have hbw := HA2.out.lt
  have hyw := HY2.out.lt
  have e1 : w2.cell? ⟨b, 1, none⟩ = some (.slice A9 q9 c9) := HA2.out.cell 1
  have hq : decide ((2048 : Int) < (q9 : Int)) = false := decide_eq_false (by have := HQ9.out; have := H48.out; rw [List.length_append] at *; simp at *; omega)
  have HF2 := Lib.hid (show FeedAt w2 b { s with held := s.held ++ [x] } (.slice A9 q9 c9) from ⟨_, HA2.out, HV2.out, HK2.out⟩)
  have HY4 := HY2.out
  obtain ⟨q0, q1, q2, q3, q4, q5, q6, r0, r1, r2, r3, r4, r5, r6⟩ := at7 (show At w2 w.heap.size #[.int .i64 0, .slice none 0 0, .int .u32 0, .int .i64 0, .string ⟨#[]⟩, .bool false, .string ⟨#[]⟩] 28 from HY2.out)
  go_wp2_with (fail)
  refine bodyPost_ret (results_ct (p := 4) (u := 5) (ty := 28) (fn := Tryd.f14) ?h0 _ _ w.heap.size 28 Z7 (0, 0) _ ?h1 ?h2 Tryd.underlying28 rfl (by kernel_rfl)) ?h3 ?h4
  case h0 => rfl
  case h1 => rfl
  case h2 => exact at_put7 HY4
  case h3 => rfl
  case h4 => exact ⟨_, .slice none 0 0, rfl, keys_nil _, feed_res HF2.out HY4 (chg_set7 (chg_refl _ _)), turn_new7 HT2.out (Nat.le_refl _), HAT.out⟩
set_option maxRecDepth 100000 in
set_option maxHeartbeats 3200000 in
theorem line_long (b : Nat) (s : St) (hv : Value) (x : Int) (w : World) (h : FeedAt w b s hv) (hl : s.held.length ≤ 100000) (hx : x ≠ 10) (h48 : ¬ s.held.length < 2048) :
    Calls Tryd.prog 14 #[.pointer (some ⟨b, 0, none⟩), .int .u8 x] w (StepsTo b hv w { s with held := [], mode := 1 } (badC longB) true) := by
  obtain ⟨kv, ha, hr, hk⟩ := h
  have hx0 : (x == 10) = false := beq_eq_false_iff_ne.2 hx
  have hx1 : (x != 10) = true := bne_iff_ne.2 hx
  clear hx
  have HL := Lib.hid hl
  obtain ⟨A0, c0, ev⟩ := Kd.R_slice hr
  obtain ⟨n0, hn0⟩ : ∃ n, n = s.held.length := ⟨_, rfl⟩
  rw [← hn0] at ev
  have HN0 := Lib.hid hn0
  clear hn0
  subst ev
  go_enter Tryd.func14, Tryd.ntmps14
  go_upto_region 1 with (fail)
  have HA := Lib.hid (at_alloc (o := .cells Z7 28) ha)
  have HR1 := Lib.hid (Kd.R_alloc hr (.cells Z7 28))
  have HK := Lib.hid (keys_below hk (below_alloc (Below.refl _ _) (.cells Z7 28)))
  have HY := Lib.hid (at_new w Z7 28)
  have HT := Lib.hid (turn_below (turn_refl b (.slice A0 n0 c0) w) (below_alloc (Below.refl _ _) (.cells Z7 28)))
  have hsz : w.heap.size < (w.alloc (.cells Z7 28)).heap.size := by rw [World.size_alloc]; omega
  have hb := ha.lt
  clear ha hr hk hl
  unfold Z7 at HA HR1 HK HY HT hsz
  generalize w.alloc (.cells #[.int .i64 0, .slice none 0 0, .int .u32 0, .int .i64 0, .string ⟨#[]⟩, .bool false, .string ⟨#[]⟩] 28) = w0 at *
  replace HY : Hid (At w0 w.heap.size Z7 28) := HY
  have H48 := Lib.hid h48
  clear h48
  have c1 : w0.cell? ⟨b, 1, none⟩ = some (.slice A0 n0 c0) := HA.out.cell 1
  go_upto_region 3 with (first
    | ((with_reducible refine gate_dst (N := 19) rfl ?_); refine Kd.R_append (Kd.int .u8) (w0 := w0) 0 (by rfl) (.tmp 16) (.tmp 18) 38 5 (.int .u8 0) 1 rfl Tryd.underlying38 infoU8 rfl (by decide) (by omega) (.slice A0 n0 c0) s.held x [.int .u8 x] (fun _ => True) (fun _ => False) rfl rfl ?aP (fun _ hk => hk.elim) ?aF ?aO ?aB ?aS ?aL ?_; (case aP => exact rfl); (case aF => exact (fun _ _ => trivial)); (case aO => exact HR1.out); (case aB => exact Below.refl 0 _); (case aS => exact Nat.zero_le _); (case aL => have := HL.out; omega); intro v1 w1 ho hb4 hg4 hat; have HA1 := Lib.hid (show At w1 b (feedA b s (.slice A0 n0 c0) kv) 42 from (hg4.block _ HA.out.lt (own_ne HA.out HR1.out)).trans HA.out); have HY1 := Lib.hid (show At w1 w.heap.size Z7 28 from (hg4.block _ HY.out.lt (Kd.R_ne HR1.out HY.out (by decide))).trans HY.out); have HK1 := Lib.hid (keys_keep HK.out (fun j cells hc => hg4.block j (Array.getElem?_eq_some_iff.1 hc).1 (Kd.R_ne HR1.out hc (by decide)))); have HT1 := Lib.hid (turn_grown HT.out hg4); have HV1 := Lib.hid ho; have HAT := Lib.hid (show v1.ownBlock = (Value.slice A0 n0 c0).ownBlock ∨ ∃ k, v1.ownBlock = some k ∧ w.heap.size ≤ k from hat.imp id (fun ⟨k, h1, h2⟩ => ⟨k, h1, by omega⟩)); clear ho hb4 hg4 hat; obtain ⟨A9, c9, ev⟩ := Kd.R_slice HV1.out; obtain ⟨q9, hq9⟩ : ∃ q, q = (s.held ++ [x]).length := ⟨_, rfl⟩; rw [← hq9] at ev; have HQ9 := Lib.hid hq9; clear hq9; subst ev; have d0 : w1.cell? ⟨b, 1, none⟩ = some (.slice A0 n0 c0) := HA1.out.cell 1; have d1 := HA1.out.free 1))
  have HA2 := Lib.hid (show At (w1.setCell ⟨b, 1, none⟩ (.slice A9 q9 c9)) b (feedA b { s with held := s.held ++ [x] } (.slice A9 q9 c9) kv) 42 from at_set' HA1.out rfl)
  have HY2 := Lib.hid (show At (w1.setCell ⟨b, 1, none⟩ (.slice A9 q9 c9)) w.heap.size Z7 28 from at_set_ne HY1.out (by omega))
  have kc : Chg (fun i => i = b) w1 (w1.setCell ⟨b, 1, none⟩ (.slice A9 q9 c9)) := chg_set (chg_refl _ _) rfl
  have HK2 := Lib.hid (keys_keep HK1.out (fun j cells hc => kc.block j (Array.getElem?_eq_some_iff.1 hc).1 (keys_own HA1.out hc)))
  have HV2 := Lib.hid (Kd.R_mono (Kd.R_step (Kd.R_tight rfl HV1.out) (fun j hj hlt => kc.block j hlt (fun e => by
    obtain ⟨cells', hc'⟩ := Kd.R_typed HV1.out j hj.symm
    have h1 := HA1.out
    unfold At at h1
    rw [e, h1] at hc'
    injection hc' with hc'
    injection hc' with _ ht
    cases ht))) (fun _ _ => trivial))
  have HT2 := Lib.hid (turn_set (i := 1) (v := .slice A9 q9 c9) HT1.out)
  clear HA1 HY1 HK1 HV1 HT1 kc d0 d1 c1 HA HR1 HK HY HT
  generalize w1.setCell ⟨b, 1, none⟩ (.slice A9 q9 c9) = w2 at *
  have hbw := HA2.out.lt
  have hyw := HY2.out.lt
  have e1 : w2.cell? ⟨b, 1, none⟩ = some (.slice A9 q9 c9) := HA2.out.cell 1
  have hq : decide ((2048 : Int) < (q9 : Int)) = true := decide_eq_true (by have := HQ9.out; have := H48.out; rw [List.length_append] at *; simp at *; omega)
  have g1 := HA2.out.free 1
  go_upto_region 5 with (fail)
  have kb : Chg (fun i => i = b) w2 (w2.setCell ⟨b, 1, none⟩ (.slice A9 0 c9)) := chg_set (chg_refl _ _) rfl
  have hby : w.heap.size ≠ b := by omega
  have HA3 := Lib.hid (show At (w2.setCell ⟨b, 1, none⟩ (.slice A9 0 c9)) b (feedA b { s with held := [] } (.slice A9 0 c9) kv) 42 from at_set' HA2.out rfl)
  have HR3 := Lib.hid (Kd.R_mono (Kd.R_step (Kd.R_tight rfl (R_cut0 HV2.out HQ9.out)) (fun j hj hlt => kb.block j hlt (fun e => own_ne HA2.out HV2.out (by rw [← cut0_own A9 q9 c9, ← e]; exact hj)))) (fun _ _ => trivial))
  have HK3 := Lib.hid (keys_res HK2.out HA2.out (by decide) kb)
  have HY3 := Lib.hid (show At (w2.setCell ⟨b, 1, none⟩ (.slice A9 0 c9)) w.heap.size Z7 28 from (kb.block _ HY2.out.lt hby).trans HY2.out)
  have HT3 := Lib.hid (turn_set (i := 1) (v := .slice A9 0 c9) HT2.out)
  clear kb HA2 HV2 HK2 HY2 HT2 e1 g1
  generalize w2.setCell ⟨b, 1, none⟩ (.slice A9 0 c9) = w3 at *
  have e0 : w3.cell? ⟨b, 0, none⟩ = some (.func (.func (modeF s.mode)) #[.pointer (some ⟨b, 0, none⟩)] #[]) := HA3.out.cell 0
  have f0 := HA3.out.free 0
  go_upto_region 6 with (fail)
  have kb : Chg (fun i => i = b) w3 (w3.setCell ⟨b, 0, none⟩ (.func (.func 21) #[.pointer (some ⟨b, 0, none⟩)] #[])) := chg_set (chg_refl _ _) rfl
  have HF4 := Lib.hid (feed_upd (s := { s with held := [] }) (s' := { s with held := [], mode := 1 }) HA3.out HR3.out HK3.out kb (at_set' HA3.out rfl) rfl rfl)
  have HY4' := Lib.hid (show At (w3.setCell ⟨b, 0, none⟩ (.func (.func 21) #[.pointer (some ⟨b, 0, none⟩)] #[])) w.heap.size Z7 28 from (kb.block _ HY3.out.lt hby).trans HY3.out)
  have HT4 := Lib.hid (turn_set (i := 0) (v := .func (.func 21) #[.pointer (some ⟨b, 0, none⟩)] #[]) HT3.out)
  clear kb HA3 HR3 HK3 HY3 HT3 e0 f0
  generalize w3.setCell ⟨b, 0, none⟩ (.func (.func 21) #[.pointer (some ⟨b, 0, none⟩)] #[]) = w4 at *
  obtain ⟨BS, hBS⟩ : ∃ x, x = longB ++ crlfB := ⟨_, rfl⟩
  have fb := fun w => fbad longB (by decide) w
  unfold cmV badC at fb
  simp only [← hBS] at fb
  unfold longB at fb
  have FB := Lib.hid fb
  have HBS := Lib.hid hBS
  clear fb hBS
  go_wp2_with ((with_reducible refine (FB.out _).mono ?_); rintro e w5 ⟨bv, rfl, hbv, hb5⟩; obtain ⟨bA, bc, ebv, -⟩ := Kd.Q_slice hbv; subst ebv; have HF5 := Lib.hid (feed_below HF4.out hb5); have HY5 := Lib.hid (at_below HY4'.out hb5); have HT5 := Lib.hid (turn_below HT4.out hb5); have HBV := Lib.hid hbv; clear hbv hb5 HF4 HY4' HT4; obtain ⟨q0, q1, q2, q3, q4, q5, q6, r0, r1, r2, r3, r4, r5, r6⟩ := at7 (show At w5 w.heap.size #[.int .i64 0, .slice none 0 0, .int .u32 0, .int .i64 0, .string ⟨#[]⟩, .bool false, .string ⟨#[]⟩] 28 from HY5.out))
  have HY4 := HY5.out
  refine bodyPost_ret (results_ct (p := 4) (u := 5) (ty := 28) (fn := Tryd.f14) ?h0 _ _ w.heap.size 28 #[.int .i64 8, .slice bA 0 bc, .int .u32 0, .int .i64 0, .string ⟨#[]⟩, .bool false, .string BS] (0, 0) _ ?h1 ?h2 Tryd.underlying28 rfl (by kernel_rfl)) ?h3 ?h4
  case h0 => rfl
  case h1 => rfl
  case h2 => exact at_put7 HY4
  case h3 => rfl
  case h4 => exact ⟨.slice A9 0 c9, .slice bA 0 bc, by rw [HBS.out]; rfl, keys_res HBV.out HY5.out (by decide) (chg_set7 (chg_refl _ _)), feed_res HF5.out HY5.out (chg_set7 (chg_refl _ _)), turn_new7 HT5.out (Nat.le_refl _), by rw [cut0_own A9 q9 c9]; exact HAT.out⟩
end Go.Proofs.YthinmioognadpaaDoor.Feed

/- line at a line's end: what it needs (own text; written by wip/tools/gen_feednl.py). -/
namespace Go.Proofs.YthinmioognadpaaDoor.Feed
open Go.RowKit Go.Proofs.YthinmioognadpaaDoor.Mem Go.Proofs.YthinmioognadpaaDoorW.PrintWords Go.Proofs.YthinmioognadpaaDoorW.PrintLast Go.Proofs.YthinmioognadpaaDoorW.PrintMore
set_option linter.unusedVariables false
set_option linter.unusedSimpArgs false
/-- A line without the return at its end. -/
def lineL (l : List Int) : List Int := if l.getLast? = some 13 then l.dropLast else l
theorem last_rd (xs : List Int) (h : 0 < xs.length) : xs.getLast? = some (rdOf 0 xs ((xs.length - 1 : Nat) : Int)) := by
  unfold rdOf
  rw [Int.toNat_natCast, List.getD_eq_getElem?_getD, List.getLast?_eq_getElem?, List.getElem?_eq_getElem (by omega)]
  rfl
theorem lineL_nil (xs : List Int) (h : xs.length = 0) : lineL xs = xs := by
  obtain rfl : xs = [] := List.length_eq_zero_iff.1 h
  rfl
theorem lineL_cut (xs : List Int) (n : Nat) (h : n + 1 = xs.length) (h13 : xs.getLast? = some 13) : lineL xs = xs.take n := by
  unfold lineL
  rw [if_pos h13, List.dropLast_eq_take]
  congr 1
  omega
theorem lineL_ne (xs : List Int) (h13 : ¬ xs.getLast? = some 13) : lineL xs = xs := by
  unfold lineL
  rw [if_neg h13]
/-- What a parse of the line tells. -/
def ParseIs (l : List Int) (c : Cm) (d : Int) : Prop := ∀ w : World, Calls Tryd.prog 23 #[.string (strOfNums (lineL l))] w fun e w' => ∃ v, e = .returned (.tuple #[cmV c v, .int .i64 d]) ∧ KeysAt w' v c.keys ∧ Below w.heap.size w w'
/-- The command alone has turned, and what stands behind it. -/
theorem feed_upd2 {w W : World} {b : Nat} {s s' : St} {hv kv kv' : Value} (ha : At w b (feedA b s hv kv) 42) (hr : (Kd.int .u8).R 5 w 0 (fun _ => True) hv s.held) (hk : KeysAt w kv' s'.c.keys)
    (k : Chg (fun i => i = b) w W) (ha' : At W b (feedA b s' hv kv') 42) (e1 : s'.held = s.held) : FeedAt W b s' hv := by
  refine ⟨kv', ha', ?_, ?_⟩
  · rw [e1]
    exact Kd.R_mono (Kd.R_step (Kd.R_tight rfl hr) (fun j hj hlt => k.block j hlt (fun e => own_ne ha hr (by rw [← e]; exact hj)))) (fun _ _ => trivial)
  · exact keys_keep hk (fun j cells hc => k.block j (Array.getElem?_eq_some_iff.1 hc).1 (keys_own ha hc))
theorem R_cutL {w : World} {A : Option Addr} {n c m : Nat} {xs : List Int} (h : (Kd.int .u8).R 5 w 0 (fun _ => True) (.slice A n c) xs) (hn : n = xs.length) (hm : m + 1 = n) : (Kd.int .u8).R 5 w 0 (fun _ => True) (.slice A m c) xs.dropLast := by
  rw [List.dropLast_eq_take]
  have h1 := Kd.R_take h (m := m) (by omega)
  have e : xs.length - 1 = m := by omega
  rw [e]
  exact h1
theorem feed_load {w : World} {b : Nat} {s : St} {hv kv v : Value} {c : Cm} {d : Int} (ha : At w b (feedA b s hv kv) 42) : At ((((((((((w.setCell ⟨b, 2, none⟩ (.int .i64 c.kind)).setCell ⟨b, 3, none⟩ v).setCell ⟨b, 4, none⟩ (.int .u32 c.fl)).setCell ⟨b, 5, none⟩ (.int .i64 c.ex)).setCell ⟨b, 6, none⟩ (.string c.body)).setCell ⟨b, 7, none⟩ (.bool c.quiet)).setCell ⟨b, 8, none⟩ (.string c.reply)).setCell ⟨b, 9, none⟩ (.int .i64 d)).setCell ⟨b, 10, none⟩ (.int .i64 0)).setCell ⟨b, 11, none⟩ (.bool false)) b (feedA b { s with c := c, left := d, tail := 0, cr := false } hv v) 42 := by
  have a1 : At (w.setCell ⟨b, 2, none⟩ (.int .i64 c.kind)) b #[.func (.func (modeF s.mode)) #[.pointer (some ⟨b, 0, none⟩)] #[], hv, .int .i64 c.kind, kv, .int .u32 s.c.fl, .int .i64 s.c.ex, .string s.c.body, .bool s.c.quiet, .string s.c.reply, .int .i64 s.left, .int .i64 s.tail, .bool s.cr, .bool s.over] 42 := at_set' ha rfl
  have a2 : At ((w.setCell ⟨b, 2, none⟩ (.int .i64 c.kind)).setCell ⟨b, 3, none⟩ v) b #[.func (.func (modeF s.mode)) #[.pointer (some ⟨b, 0, none⟩)] #[], hv, .int .i64 c.kind, v, .int .u32 s.c.fl, .int .i64 s.c.ex, .string s.c.body, .bool s.c.quiet, .string s.c.reply, .int .i64 s.left, .int .i64 s.tail, .bool s.cr, .bool s.over] 42 := at_set' a1 rfl
  have a3 : At (((w.setCell ⟨b, 2, none⟩ (.int .i64 c.kind)).setCell ⟨b, 3, none⟩ v).setCell ⟨b, 4, none⟩ (.int .u32 c.fl)) b #[.func (.func (modeF s.mode)) #[.pointer (some ⟨b, 0, none⟩)] #[], hv, .int .i64 c.kind, v, .int .u32 c.fl, .int .i64 s.c.ex, .string s.c.body, .bool s.c.quiet, .string s.c.reply, .int .i64 s.left, .int .i64 s.tail, .bool s.cr, .bool s.over] 42 := at_set' a2 rfl
  have a4 : At ((((w.setCell ⟨b, 2, none⟩ (.int .i64 c.kind)).setCell ⟨b, 3, none⟩ v).setCell ⟨b, 4, none⟩ (.int .u32 c.fl)).setCell ⟨b, 5, none⟩ (.int .i64 c.ex)) b #[.func (.func (modeF s.mode)) #[.pointer (some ⟨b, 0, none⟩)] #[], hv, .int .i64 c.kind, v, .int .u32 c.fl, .int .i64 c.ex, .string s.c.body, .bool s.c.quiet, .string s.c.reply, .int .i64 s.left, .int .i64 s.tail, .bool s.cr, .bool s.over] 42 := at_set' a3 rfl
  have a5 : At (((((w.setCell ⟨b, 2, none⟩ (.int .i64 c.kind)).setCell ⟨b, 3, none⟩ v).setCell ⟨b, 4, none⟩ (.int .u32 c.fl)).setCell ⟨b, 5, none⟩ (.int .i64 c.ex)).setCell ⟨b, 6, none⟩ (.string c.body)) b #[.func (.func (modeF s.mode)) #[.pointer (some ⟨b, 0, none⟩)] #[], hv, .int .i64 c.kind, v, .int .u32 c.fl, .int .i64 c.ex, .string c.body, .bool s.c.quiet, .string s.c.reply, .int .i64 s.left, .int .i64 s.tail, .bool s.cr, .bool s.over] 42 := at_set' a4 rfl
  have a6 : At ((((((w.setCell ⟨b, 2, none⟩ (.int .i64 c.kind)).setCell ⟨b, 3, none⟩ v).setCell ⟨b, 4, none⟩ (.int .u32 c.fl)).setCell ⟨b, 5, none⟩ (.int .i64 c.ex)).setCell ⟨b, 6, none⟩ (.string c.body)).setCell ⟨b, 7, none⟩ (.bool c.quiet)) b #[.func (.func (modeF s.mode)) #[.pointer (some ⟨b, 0, none⟩)] #[], hv, .int .i64 c.kind, v, .int .u32 c.fl, .int .i64 c.ex, .string c.body, .bool c.quiet, .string s.c.reply, .int .i64 s.left, .int .i64 s.tail, .bool s.cr, .bool s.over] 42 := at_set' a5 rfl
  have a7 : At (((((((w.setCell ⟨b, 2, none⟩ (.int .i64 c.kind)).setCell ⟨b, 3, none⟩ v).setCell ⟨b, 4, none⟩ (.int .u32 c.fl)).setCell ⟨b, 5, none⟩ (.int .i64 c.ex)).setCell ⟨b, 6, none⟩ (.string c.body)).setCell ⟨b, 7, none⟩ (.bool c.quiet)).setCell ⟨b, 8, none⟩ (.string c.reply)) b #[.func (.func (modeF s.mode)) #[.pointer (some ⟨b, 0, none⟩)] #[], hv, .int .i64 c.kind, v, .int .u32 c.fl, .int .i64 c.ex, .string c.body, .bool c.quiet, .string c.reply, .int .i64 s.left, .int .i64 s.tail, .bool s.cr, .bool s.over] 42 := at_set' a6 rfl
  have a8 : At ((((((((w.setCell ⟨b, 2, none⟩ (.int .i64 c.kind)).setCell ⟨b, 3, none⟩ v).setCell ⟨b, 4, none⟩ (.int .u32 c.fl)).setCell ⟨b, 5, none⟩ (.int .i64 c.ex)).setCell ⟨b, 6, none⟩ (.string c.body)).setCell ⟨b, 7, none⟩ (.bool c.quiet)).setCell ⟨b, 8, none⟩ (.string c.reply)).setCell ⟨b, 9, none⟩ (.int .i64 d)) b #[.func (.func (modeF s.mode)) #[.pointer (some ⟨b, 0, none⟩)] #[], hv, .int .i64 c.kind, v, .int .u32 c.fl, .int .i64 c.ex, .string c.body, .bool c.quiet, .string c.reply, .int .i64 d, .int .i64 s.tail, .bool s.cr, .bool s.over] 42 := at_set' a7 rfl
  have a9 : At (((((((((w.setCell ⟨b, 2, none⟩ (.int .i64 c.kind)).setCell ⟨b, 3, none⟩ v).setCell ⟨b, 4, none⟩ (.int .u32 c.fl)).setCell ⟨b, 5, none⟩ (.int .i64 c.ex)).setCell ⟨b, 6, none⟩ (.string c.body)).setCell ⟨b, 7, none⟩ (.bool c.quiet)).setCell ⟨b, 8, none⟩ (.string c.reply)).setCell ⟨b, 9, none⟩ (.int .i64 d)).setCell ⟨b, 10, none⟩ (.int .i64 0)) b #[.func (.func (modeF s.mode)) #[.pointer (some ⟨b, 0, none⟩)] #[], hv, .int .i64 c.kind, v, .int .u32 c.fl, .int .i64 c.ex, .string c.body, .bool c.quiet, .string c.reply, .int .i64 d, .int .i64 0, .bool s.cr, .bool s.over] 42 := at_set' a8 rfl
  have a10 : At ((((((((((w.setCell ⟨b, 2, none⟩ (.int .i64 c.kind)).setCell ⟨b, 3, none⟩ v).setCell ⟨b, 4, none⟩ (.int .u32 c.fl)).setCell ⟨b, 5, none⟩ (.int .i64 c.ex)).setCell ⟨b, 6, none⟩ (.string c.body)).setCell ⟨b, 7, none⟩ (.bool c.quiet)).setCell ⟨b, 8, none⟩ (.string c.reply)).setCell ⟨b, 9, none⟩ (.int .i64 d)).setCell ⟨b, 10, none⟩ (.int .i64 0)).setCell ⟨b, 11, none⟩ (.bool false)) b #[.func (.func (modeF s.mode)) #[.pointer (some ⟨b, 0, none⟩)] #[], hv, .int .i64 c.kind, v, .int .u32 c.fl, .int .i64 c.ex, .string c.body, .bool c.quiet, .string c.reply, .int .i64 d, .int .i64 0, .bool false, .bool s.over] 42 := at_set' a9 rfl
  exact a10
theorem chg_load {b : Nat} {w W : World} {v : Value} {c : Cm} {d : Int} (h : Chg (fun i => i = b) w W) : Chg (fun i => i = b) w ((((((((((W.setCell ⟨b, 2, none⟩ (.int .i64 c.kind)).setCell ⟨b, 3, none⟩ v).setCell ⟨b, 4, none⟩ (.int .u32 c.fl)).setCell ⟨b, 5, none⟩ (.int .i64 c.ex)).setCell ⟨b, 6, none⟩ (.string c.body)).setCell ⟨b, 7, none⟩ (.bool c.quiet)).setCell ⟨b, 8, none⟩ (.string c.reply)).setCell ⟨b, 9, none⟩ (.int .i64 d)).setCell ⟨b, 10, none⟩ (.int .i64 0)).setCell ⟨b, 11, none⟩ (.bool false)) :=
  chg_set (chg_set (chg_set (chg_set (chg_set (chg_set (chg_set (chg_set (chg_set (chg_set h rfl) rfl) rfl) rfl) rfl) rfl) rfl) rfl) rfl) rfl
theorem turn_load {b : Nat} {hv : Value} {w W : World} {v : Value} {c : Cm} {d : Int} (h : Turn b hv w W) : Turn b hv w ((((((((((W.setCell ⟨b, 2, none⟩ (.int .i64 c.kind)).setCell ⟨b, 3, none⟩ v).setCell ⟨b, 4, none⟩ (.int .u32 c.fl)).setCell ⟨b, 5, none⟩ (.int .i64 c.ex)).setCell ⟨b, 6, none⟩ (.string c.body)).setCell ⟨b, 7, none⟩ (.bool c.quiet)).setCell ⟨b, 8, none⟩ (.string c.reply)).setCell ⟨b, 9, none⟩ (.int .i64 d)).setCell ⟨b, 10, none⟩ (.int .i64 0)).setCell ⟨b, 11, none⟩ (.bool false)) :=
  turn_set (turn_set (turn_set (turn_set (turn_set (turn_set (turn_set (turn_set (turn_set (turn_set h)))))))))
end Go.Proofs.YthinmioognadpaaDoor.Feed

/- FeedData answers true (own text). -/
import Derived.Test.YthinmioognadpaaDoorFeedS
import Derived.Test.YthinmioognadpaaDoorFeedLike
namespace Go.Proofs.YthinmioognadpaaDoor.Feed
open Go.RowKit Go.Proofs.YthinmioognadpaaDoor.Mem Go.Proofs.YthinmioognadpaaDoorW.PrintWords Go.Proofs.YthinmioognadpaaDoorW.PrintLast Go.Proofs.YthinmioognadpaaDoorW.PrintMore
set_option linter.unusedVariables false
set_option linter.unusedSimpArgs false
theorem lit_key {w : World} {g : Nat} {s : ByteArray} (h : At w g #[.string s] 9) : Kd.Q Kd.string 9 w 0 (fun j => ∃ cells, w.heap[j]? = some (Obj.cells cells 9 (0, 0))) (.slice (some ⟨g, 0, none⟩) 1 1) [s] := by
  refine Kd.Q_of_R (Kd.R_of_own ⟨rfl, .inr ⟨g, 1, #[.string s], rfl, Nat.zero_le _, h, Nat.le_refl _, (by decide : 1 ≤ maxLen), rfl, rfl⟩⟩ (fun k hk => ?_))
  have e : g = k := by injection hk
  subst e
  exact ⟨_, h⟩
theorem lit_out {w : World} {g kb : Nat} {body : ByteArray} (hk : At w kb #[.string kB] 9) (hg : At w g #[.int .i64 2, .slice (some ⟨kb, 0, none⟩) 1 1, .int .u32 7, .int .i64 0, .string body, .bool false, .string ⟨#[]⟩] 28) : Out w (.slice (some ⟨g, 0, none⟩) 1 1) [setC body] := by
  refine ⟨fun _ _ => trivial, [.int .i64 2, .slice (some ⟨kb, 0, none⟩) 1 1, .int .u32 7, .int .i64 0, .string body, .bool false, .string ⟨#[]⟩], ⟨rfl, .inr ⟨g, 1, _, rfl, Nat.zero_le _, hg, Nat.le_refl _, (by decide : 1 ≤ maxLen), rfl, rfl⟩⟩, rfl, fun j p hj => ?_⟩
  match j, hj with
  | 0, hj =>
    have e : setC body = p := by injection hj
    subst e
    refine kC_mkM w _ (setC body) (v := .slice (some ⟨kb, 0, none⟩) 1 1) (Kd.Q_mono (lit_key hk) (fun j hj => ⟨trivial, fun e => ?_⟩))
    obtain ⟨cells, hc⟩ := hj
    have e' : j = g := by injection e
    exact typ_ne hg hc (by decide) e'
  | j + 1, hj => cases hj
theorem lit_str (x0 x1 x2 x3 : Int) (w : World) : (convert 38 9 (.slice (some ⟨w.heap.size, 0, none⟩) 4 4)).run Tryd.prog (w.alloc (.cells #[.int .u8 x0, .int .u8 x1, .int .u8 x2, .int .u8 x3] 5)) = .ok (.string (strOfNums [x0, x1, x2, x3])) (w.alloc (.cells #[.int .u8 x0, .int .u8 x1, .int .u8 x2, .int .u8 x3] 5)) :=
  own_string Tryd.underlying38 Tryd.underlying5 Tryd.underlying9 (base := 0) (xs := [x0, x1, x2, x3]) ⟨rfl, .inr ⟨w.heap.size, 4, _, rfl, Nat.zero_le _, heap_alloc_new w _, Nat.le_refl _, (by decide : 4 ≤ maxLen), rfl, rfl⟩⟩
theorem digs_ints {n : Nat} (h : n ≤ 1024) : [48 + (n : Int) / 1000, 48 + (n : Int) / 100 % 10, 48 + (n : Int) / 10 % 10, 48 + (n : Int) % 10] = (digs n).map (fun b => (b.toNat : Int)) := by
  unfold digs
  simp only [List.map_cons, List.map_nil]
  rw [dig_nat _ (by omega), dig_nat _ (by omega), dig_nat _ (by omega), dig_nat _ (by omega)]
  rw [show 48 + (n : Int) / 1000 = ((48 + n / 1000 : Nat) : Int) by omega, show 48 + (n : Int) / 100 % 10 = ((48 + n / 100 % 10 : Nat) : Int) by omega, show 48 + (n : Int) / 10 % 10 = ((48 + n / 10 % 10 : Nat) : Int) by omega, show 48 + (n : Int) % 10 = ((48 + n % 10 : Nat) : Int) by omega]
theorem line_bytes {n : Nat} (h : n ≤ 1024) {S : ByteArray} (hS : S = strOfNums [48 + (n : Int) / 1000, 48 + (n : Int) / 100 % 10, 48 + (n : Int) / 10 % 10, 48 + (n : Int) % 10]) : bytesL (({ data := #[115, 101, 116, 32, 107, 32, 55, 32, 48, 32] } : ByteArray) ++ S ++ { data := #[13, 10] }) = (setU n).map (fun b => (b.toNat : Int)) ++ [13, 10] := by
  rw [hS, digs_ints h, str_map, bytesL_app, bytesL_app]
  unfold setU
  rw [List.map_append]
  rfl
theorem out_rowsA {w : World} {A : Option Addr} {n c : Nat} {l : List Cm} (h : Out w (.slice A n c) l) : ReadsRow (kC.M w 0 (fun j => ∃ cells, w.heap[j]? = some (Obj.cells cells 9 (0, 0)))) kC.sz w A l.length l := by
  obtain ⟨A', c', e, hr⟩ := out_rows h
  injection e with e1 _ _
  subst e1
  exact hr
set_option maxRecDepth 100000 in
set_option maxHeartbeats 3200000 in
theorem data_great (body behind : ByteArray) (w : World) (h : 1024 < body.size) :
    Calls Tryd.prog 6 #[.string body, .string behind] w fun e w' => e = .returned (.bool true) ∧ Below w.heap.size w w' := by
  have c1 : decide ((1024 : Int) < (body.size : Int)) = true := decide_eq_true (by omega)
  clear h
  go_enter Tryd.func6, Tryd.ntmps6
  go_wp2_with ((with_reducible refine (fixed_any _).mono ?_); rintro e w1 ⟨rfl, hb1⟩)
  go_ret
  exact ⟨rfl, hb1⟩
set_option maxRecDepth 100000 in
set_option maxHeartbeats 3200000 in
theorem data_great2 (body behind : ByteArray) (w : World) (h0 : body.size ≤ 1024) (h : 3000 < behind.size) :
    Calls Tryd.prog 6 #[.string body, .string behind] w fun e w' => e = .returned (.bool true) ∧ Below w.heap.size w w' := by
  have c0 : decide ((1024 : Int) < (body.size : Int)) = false := decide_eq_false (by omega)
  have c1 : decide ((3000 : Int) < (behind.size : Int)) = true := decide_eq_true (by omega)
  clear h h0
  go_enter Tryd.func6, Tryd.ntmps6
  go_wp2_with ((with_reducible refine (fixed_any _).mono ?_); rintro e w1 ⟨rfl, hb1⟩)
  go_ret
  exact ⟨rfl, hb1⟩
set_option maxRecDepth 100000 in
set_option maxHeartbeats 3200000 in
theorem data_small (body behind : ByteArray) (w : World) (h1 : body.size ≤ 1024) (h2 : behind.size ≤ 3000) :
    Calls Tryd.prog 6 #[.string body, .string behind] w fun e w' => e = .returned (.bool true) ∧ Below w.heap.size w w' := by
  have c0 : decide ((1024 : Int) < (body.size : Int)) = false := decide_eq_false (by omega)
  have c1 : decide ((3000 : Int) < (behind.size : Int)) = false := decide_eq_false (by omega)
  have HS := Lib.hid (And.intro h1 h2)
  have CN := Lib.hid (fun w => new_any w)
  have CF := Lib.hid (fun w => fixed_any w)
  have y1 : (body.size : Int) ≤ 1024 := by omega
  have y0 : (0 : Int) ≤ (body.size : Int) := by omega
  clear h1 h2
  go_enter Tryd.func6, Tryd.ntmps6
  have hcv := lit_str (48 + (body.size : Int) / 1000) (48 + (body.size : Int) / 100 % 10) (48 + (body.size : Int) / 10 % 10) (48 + (body.size : Int) % 10) w
  obtain ⟨S, hS⟩ : ∃ S, S = strOfNums [48 + (body.size : Int) / 1000, 48 + (body.size : Int) / 100 % 10, 48 + (body.size : Int) / 10 % 10, 48 + (body.size : Int) % 10] := ⟨_, rfl⟩
  rw [← hS] at hcv
  have s4 : S.size = 4 := by rw [hS]; rfl
  have s14 : (({ data := #[115, 101, 116, 32, 107, 32, 55, 32, 48, 32] } : ByteArray) ++ S).size = 14 := by rw [ByteArray.size_append, s4]; rfl
  have HL0 := Lib.hid (line_bytes (show body.size ≤ 1024 from HS.out.1) hS)
  clear hS
  go_upto_region 4 with (fail)
  go_upto_region 5 with (fail)
  have HB5 := Lib.hid (below_alloc (Below.refl w.heap.size w) (.cells #[.int .u8 (48 + (body.size : Int) / 1000), .int .u8 (48 + (body.size : Int) / 100 % 10), .int .u8 (48 + (body.size : Int) / 10 % 10), .int .u8 (48 + (body.size : Int) % 10)] 5))
  clear hcv
  generalize w.alloc (.cells #[.int .u8 (48 + (body.size : Int) / 1000), .int .u8 (48 + (body.size : Int) / 100 % 10), .int .u8 (48 + (body.size : Int) / 10 % 10), .int .u8 (48 + (body.size : Int) % 10)] 5) = w5 at *
  obtain ⟨line, hline⟩ : ∃ line : ByteArray, line = ({ data := #[115, 101, 116, 32, 107, 32, 55, 32, 48, 32] } : ByteArray) ++ S ++ { data := #[13, 10] } := ⟨_, rfl⟩
  have sL : line.size = 16 := by rw [hline, ByteArray.size_append, s14]; rfl
  rw [← hline] at HL0
  rw [← hline]
  clear hline s4 s14
  have TK := Lib.hid trivial
  go_upto_region 6 with (first
    | (clear TK; (with_reducible refine (CN.out _).mono ?_); rintro e w1 ⟨rfl, hf1, hb1⟩)
    | ((with_reducible refine (CN.out _).mono ?_); rintro e w2 ⟨rfl, hf2, hb2⟩))
  have HF := Lib.hid (feed_below hf1 hb2)
  have HG := Lib.hid hf2
  have HB := Lib.hid (below_step (below_step HB5.out hb1) hb2)
  have hlt := feed_lt hf1
  have hw5 := HB5.out.size
  generalize w1.heap.size = bg at *
  generalize w5.heap.size = bf at *
  have hbg : bf ≠ bg := by omega
  have hbw : w.heap.size ≤ bg := by omega
  have hbv : w.heap.size ≤ bf := by omega
  clear hf1 hb1 hf2 hb2 hlt hw5 HB5 w5 w1
  obtain ⟨big, hbig⟩ : ∃ big : ByteArray, big = ((line ++ body) ++ { data := #[13, 10] }) ++ behind := ⟨_, rfl⟩
  obtain ⟨R1, hR1⟩ : ∃ R, R = takeA st0 [] (bytesL big) := ⟨_, rfl⟩
  obtain ⟨R2, hR2⟩ : ∃ R, R = takeA st0 [] (bytesL behind) := ⟨_, rfl⟩
  have s1 : (line ++ body).size = 16 + body.size := by rw [ByteArray.size_append, sL]
  have s2 : (line ++ body ++ ({ data := #[13, 10] } : ByteArray)).size = 18 + body.size := by rw [ByteArray.size_append, s1]; show 16 + body.size + 2 = _; omega
  have s3 : big.size = 18 + body.size + behind.size := by rw [hbig, ByteArray.size_append, s2]
  obtain ⟨q1, q2, q3⟩ := data_law line body behind HS.out.1 HL0.out
  have hbig2 : big = ((line ++ body) ++ crlfB) ++ behind := hbig
  rw [← hbig2, ← hR1, ← hR2] at q1 q2 q3
  have tf := fun W hvx (hf : FeedAt W bf st0 hvx) => take_any bf st0 hvx big W hf inv0 (by have := HS.out; omega)
  have tg := fun W (hf : FeedAt W bg st0 (.slice none 0 0)) => take_any bg st0 (.slice none 0 0) behind W hf inv0 (by have := HS.out; omega)
  rw [← hR1, hbig] at tf
  rw [← hR2] at tg
  unfold TakesTo at tf tg
  have HLL := Lib.hid (show R2.2.length ≤ 3000 from by
    have h8 := takeA_len (bytesL behind) st0 []
    have h9 := HS.out
    rw [← hR2, bytesL_len] at h8
    have h7 : ([] : List Cm).length = 0 := rfl
    omega)
  have HQ := Lib.hid (And.intro q1 (And.intro q2 q3))
  have TF := Lib.hid tf
  have TG := Lib.hid tg
  clear tf tg hR1 hR2 q1 q2 q3 hbig2 s3 hbig
  have b1 : body.size ≤ 1024 := HS.out.1
  have b2 : behind.size ≤ 3000 := HS.out.2
  go_upto_region 7 with ((with_reducible refine (TF.out _ (.slice none 0 0) ?hF).mono ?_); (case hF => exact HF.out); rintro e w3 ⟨v, hv2, rfl, HO, HF2, -, HT2, HW2, -⟩; have HG2 := Lib.hid (feed_other HG.out HF.out HT2.out hbg.symm nil_apart); have HB2 := Lib.hid (below_turn HB.out HT2.out hbv (new_nil w)))
  clear HF HG HB HT2 HW2 TF s1 s2 b1 b2 sL
  go_upto_region 8 with ((with_reducible refine (TG.out _ ?hF).mono ?_); (case hF => exact HG2.out); rintro e w4 ⟨v2, hv3, rfl, HOm, HG3, -, HT3, -, -⟩; have HF3 := Lib.hid (feed_other HF2.out HG2.out HT3.out hbg apart_nil); have HO3 := Lib.hid (out_turn HG2.out HO.out HT3.out); have HB3 := Lib.hid (below_turn HB2.out HT3.out hbw (new_nil w)))
  clear HF2 HG2 HB2 HT3 HO TG
  obtain ⟨A9, c9, ev, hrw⟩ := out_rows HOm.out
  subst ev
  have HRW := Lib.hid hrw
  clear hrw
  have HK := Lib.hid (at_alloc (o := .cells #[.int .i64 2, .slice (some ⟨w4.heap.size, 0, none⟩) 1 1, .int .u32 7, .int .i64 0, .string body, .bool false, .string ⟨#[]⟩] 28) (at_new w4 #[.string ⟨#[107]⟩] 9))
  have HZ := Lib.hid (at_new (w4.alloc (.cells #[.string ⟨#[107]⟩] 9)) #[.int .i64 2, .slice (some ⟨w4.heap.size, 0, none⟩) 1 1, .int .u32 7, .int .i64 0, .string body, .bool false, .string ⟨#[]⟩] 28)
  have hz : (w4.alloc (.cells #[.string ⟨#[107]⟩] 9)).heap.size = w4.heap.size + 1 := World.size_alloc _ _
  rw [hz] at HZ
  have HBB := Lib.hid (below_alloc (below_alloc (Below.refl w4.heap.size w4) (.cells #[.string ⟨#[107]⟩] 9)) (.cells #[.int .i64 2, .slice (some ⟨w4.heap.size, 0, none⟩) 1 1, .int .u32 7, .int .i64 0, .string body, .bool false, .string ⟨#[]⟩] 28))
  clear hz
  go_upto_region 9 with ((with_reducible refine gate_dst (N := 63) rfl ?_); generalize ((w4.alloc (.cells #[.string ⟨#[107]⟩] 9)).alloc (.cells #[.int .i64 2, .slice (some ⟨w4.heap.size, 0, none⟩) 1 1, .int .u32 7, .int .i64 0, .string body, .bool false, .string ⟨#[]⟩] 28)) = w5 at *; have HO5 := Lib.hid (lit_out HK.out HZ.out); have HRW := Lib.hid (out_rowsA (out_below HOm.out HBB.out)); refine Kd.R_append_rows kC (Rr := kC.M w5 0 (fun j => ∃ cells, w5.heap[j]? = some (Obj.cells cells 9 (0, 0)))) (w0 := w5) 0 (by rfl) (.tmp 61) (.tmp 62) 31 28 (.agg #[.int .i64 0, .slice none 0 0, .int .u32 0, .int .i64 0, .string ⟨#[]⟩, .bool false, .string ⟨#[]⟩]) 88 rfl Tryd.underlying31 infoC rfl (by decide) (by omega) (.slice (some ⟨w4.heap.size + 1, 0, none⟩) 1 1) [setC body] R2.2 A9 _ c9 (fun _ => True) (fun j => ∃ cells, w5.heap[j]? = some (Obj.cells cells 9 (0, 0))) rfl rfl ?aO ?aR ?aK ?aN ?aF ?aB ?aS ?aL ?_; (case aO => exact HO5.out); (case aR => exact HRW.out); (case aK => exact (fun x cs h => h)); (case aN => exact (fun j hj => ⟨trivial, by obtain ⟨cells, hc⟩ := hj; exact Kd.R_ne HO5.out hc (by decide)⟩)); (case aF => exact (fun _ _ => trivial)); (case aB => exact Below.refl 0 _); (case aS => exact Nat.zero_le _); (case aL => have h8 := HLL.out; have h7 : [setC body].length = 1 := rfl; omega); intro v1 wC ho hb4 hg4 hat; have HF4 := Lib.hid (feed_out (feed_below HF3.out HBB.out) HO5.out hg4); have HG4 := Lib.hid (feed_out (feed_below HG3.out HBB.out) HO5.out hg4); have HOB := Lib.hid (out_keep HO3.out (fun y cells q hq hc => (hg4.block y (Nat.lt_of_lt_of_le (Array.getElem?_eq_some_iff.1 hc).1 HBB.out.size) (fun e => by have hy := (Array.getElem?_eq_some_iff.1 hc).1; have e1 : y = w4.heap.size + 1 := Option.some.inj e; omega)).trans (HBB.out.block y (Array.getElem?_eq_some_iff.1 hc).1))); have HO4 := Lib.hid (show Out wC v1 (setC body :: R2.2) from ho); have HB4 := Lib.hid (below_turn (below_step HB3.out HBB.out) (turn_grownO hg4) (Nat.le_refl _) (fun j hj => by have h9 := HB3.out.size; have e1 : w4.heap.size + 1 = j := Option.some.inj hj; omega)); clear ho hb4 hg4 hat)
  clear HK HZ HBB HF3 HG3 HB3 HOm HO3
  have HOC := Lib.hid (show Out _ v (setC body :: R2.2) from by have h1 := HOB.out; rw [HQ.out.1] at h1; exact h1)
  have HLC := Lib.hid (show (setC body :: R2.2).length ≤ 1000000 from by have h8 := HLL.out; rw [List.length_cons]; omega)
  have CH := Lib.hid (fun W (hf : FeedAt W bf R1.1 hv2) => (show Calls Tryd.prog 12 #[.pointer (some ⟨bf, 0, none⟩)] W fun e w' => e = .returned (.int .i64 (R2.1.held.length : Int)) ∧ Below W.heap.size W w' from by have h1 := held_any bf R1.1 hv2 W hf; rw [HQ.out.2.1] at h1; exact h1))
  have CO := Lib.hid (fun W (hf : FeedAt W bf R1.1 hv2) => (show Calls Tryd.prog 13 #[.pointer (some ⟨bf, 0, none⟩)] W fun e w' => e = .returned (.bool R2.1.over) ∧ Below W.heap.size W w' from by have h1 := over_any bf R1.1 hv2 W hf; rw [HQ.out.2.2] at h1; exact h1))
  clear HOB HQ HLL
  have TK := Lib.hid trivial
  have TL := Lib.hid trivial
  go_wp2_with (first
    | (go_at_call 7; (with_reducible refine (CF.out _).mono ?_); rintro e w6 ⟨rfl, hb6⟩; replace HF4 := Lib.hid (feed_below HF4.out hb6); replace HG4 := Lib.hid (feed_below HG4.out hb6); replace HOC := Lib.hid (out_below HOC.out hb6); replace HO4 := Lib.hid (out_below HO4.out hb6); replace HB4 := Lib.hid (below_step HB4.out hb6); clear hb6)
    | (go_at_call 11; (with_reducible refine (same_calls HOC.out HO4.out HLC.out).mono ?_); rintro e w6 ⟨rfl, hb6⟩; replace HF4 := Lib.hid (feed_below HF4.out hb6); replace HG4 := Lib.hid (feed_below HG4.out hb6); replace HB4 := Lib.hid (below_step HB4.out hb6); clear hb6 HOC HO4)
    | (go_at_call 12; clear TK; (with_reducible refine (CH.out _ HF4.out).mono ?_); rintro e w6 ⟨rfl, hb6⟩; replace HF4 := Lib.hid (feed_below HF4.out hb6); replace HG4 := Lib.hid (feed_below HG4.out hb6); replace HB4 := Lib.hid (below_step HB4.out hb6); clear hb6)
    | (go_at_call 12; (with_reducible refine (held_any _ _ _ _ HG4.out).mono ?_); rintro e w6 ⟨rfl, hb6⟩; replace HF4 := Lib.hid (feed_below HF4.out hb6); replace HG4 := Lib.hid (feed_below HG4.out hb6); replace HB4 := Lib.hid (below_step HB4.out hb6); clear hb6)
    | (go_at_call 13; clear TL; (with_reducible refine (CO.out _ HF4.out).mono ?_); rintro e w6 ⟨rfl, hb6⟩; replace HF4 := Lib.hid (feed_below HF4.out hb6); replace HG4 := Lib.hid (feed_below HG4.out hb6); replace HB4 := Lib.hid (below_step HB4.out hb6); clear hb6)
    | (go_at_call 13; (with_reducible refine (over_any _ _ _ _ HG4.out).mono ?_); rintro e w6 ⟨rfl, hb6⟩; replace HF4 := Lib.hid (feed_below HF4.out hb6); replace HG4 := Lib.hid (feed_below HG4.out hb6); replace HB4 := Lib.hid (below_step HB4.out hb6); clear hb6))
  go_ret
  exact ⟨by go_num, by repeat (first | exact HB4.out | apply pw_below_drewN | apply below_drew)⟩
theorem data_walk (body behind : ByteArray) (w : World) :
    Calls Tryd.prog 6 #[.string body, .string behind] w fun e w' => e = .returned (.bool true) ∧ Below w.heap.size w w' := by
  by_cases h1 : 1024 < body.size
  · exact data_great body behind w h1
  · by_cases h2 : 3000 < behind.size
    · exact data_great2 body behind w (by omega) h2
    · exact data_small body behind w (by omega) (by omega)
end Go.Proofs.YthinmioognadpaaDoor.Feed

/- FeedOn answers true (own text; written by wip/tools/gen_feedon.py). -/
import Derived.Test.YthinmioognadpaaDoorFeedS
import Derived.Test.YthinmioognadpaaDoorFeedLike
import Derived.Test.YthinmioognadpaaDoorFeedE
import Derived.Test.YthinmioognadpaaDoorRefD
namespace Go.Proofs.YthinmioognadpaaDoor.Feed
open Go.RowKit Go.Proofs.YthinmioognadpaaDoor.Mem Go.Proofs.YthinmioognadpaaDoorW.PrintWords Go.Proofs.YthinmioognadpaaDoorW.PrintLast Go.Proofs.YthinmioognadpaaDoorW.PrintMore
set_option linter.unusedVariables false
set_option linter.unusedSimpArgs false
theorem ref_is (line own : ByteArray) (h : strOfNums (lineL (bytesL line)) = own) (hs : own.size ≤ 1000000) (w : World) : Calls Tryd.prog 9 #[.string own] w fun e w' => ∃ v, e = .returned (.tuple #[cmV (ansC (lineP (bytesL line))) v, .int .i64 (ansD (lineP (bytesL line)))]) ∧ KeysAt w' v (ansC (lineP (bytesL line))).keys ∧ Below w.heap.size w w' := by
  refine (Cmd.refParse_any own hs w).mono ?_
  unfold lineP
  rw [h]
  rintro e w' ⟨v, he, hq, hb⟩
  exact ⟨v, he, Kd.Q_mono (Kd.Q_lower hq (Nat.zero_le _)) (fun _ _ => trivial), hb⟩
theorem last_bt (line : ByteArray) (h : 0 < line.size) : (bytesL line).getLast? = some (bt line ((line.size - 1 : Nat) : Int)) := by
  have h1 := bytesL_at line (line.size - 1) (by omega)
  rw [show line.size - 1 + 1 = line.size by omega, List.drop_of_length_le (show (bytesL line).length ≤ line.size by rw [bytesL_len]; exact Nat.le_refl _)] at h1
  rw [← List.take_append_drop (line.size - 1) (bytesL line), h1, List.getLast?_concat]
theorem bt_nat (s : ByteArray) (i : Nat) : ∀ h : i < s.size, ((s[i]'h).toNat : Int) = bt s (i : Int) := bt_at s (i : Int)
theorem own_whole (line : ByteArray) (h : ¬ (bytesL line).getLast? = some 13) : strOfNums (lineL (bytesL line)) = line := by
  unfold lineL
  rw [if_neg h, str_bytes]
theorem own_cut (line : ByteArray) (h0 : 0 < line.size) (h : (bytesL line).getLast? = some 13) : strOfNums (lineL (bytesL line)) = line.extract 0 (line.size - 1) := by
  unfold lineL
  rw [if_pos h, List.dropLast_eq_take, bytesL_len]
  unfold bytesL
  rw [← List.map_take, str_map]
  apply Split.ext_list
  rw [Split.extract_data, List.drop_zero]
theorem mem_bt (line : ByteArray) (h : ∀ i : Nat, i < line.size → bt line (i : Int) ≠ 10) : ∀ x, x ∈ bytesL line → x ≠ 10 := fun x hx => by
  obtain ⟨i, hi, rfl⟩ := List.mem_iff_getElem.1 hx
  rw [bytesL_len] at hi
  have h1 := bytesL_at line i hi
  have h2 : (bytesL line)[i]'(by rw [bytesL_len]; exact hi) = bt line (i : Int) := by
    have h3 := List.drop_eq_getElem_cons (l := bytesL line) (i := i) (by rw [bytesL_len]; exact hi)
    rw [h1] at h3
    injection h3 with h3 _
    exact h3.symm
  rw [h2]
  exact h i hi
/-- A bad line's take. -/
theorem take_bad (b : Nat) (hv : Value) (line : ByteArray) (w : World) (hf : FeedAt w b st0 hv) (hs : line.size ≤ 3000) (hx : ∀ x, x ∈ bytesL line → x ≠ 10) (h : 2048 < line.size ∨ ((ansC (lineP (bytesL line))).kind = 8 ∧ ansD (lineP (bytesL line)) < 0)) :
    Calls Tryd.prog 10 #[.pointer (some ⟨b, 0, none⟩), .string (line ++ ⟨#[10]⟩)] w fun e w' => ∃ g cap hv', e = .returned (.slice (some ⟨g, 0, none⟩) 1 cap) ∧ 1 ≤ cap ∧ w'.cell? ⟨g, 0, none⟩ = some (.int .i64 8) ∧ g < w'.heap.size ∧ Hid (FeedAt w' b st0 hv') ∧ Hid (Turn b hv w w') ∧ Hid (Own hv hv' w) := by
  have hz : (line ++ (⟨#[10]⟩ : ByteArray)).size ≤ 1000000 := by rw [ByteArray.size_append]; have : (⟨#[10]⟩ : ByteArray).size = 1 := rfl; omega
  have h1 := take_any b st0 hv (line ++ ⟨#[10]⟩) w hf inv0 hz
  obtain ⟨c, hc, ht⟩ := bad_law line hx h
  have e1 : bytesL (line ++ (⟨#[10]⟩ : ByteArray)) = bytesL line ++ [10] := bytesL_app line ⟨#[10]⟩
  rw [e1, ht] at h1
  refine h1.mono ?_
  rintro e w' ⟨v, hv', rfl, ho, hf', hi', ht', hw', -⟩
  obtain ⟨g, cap, rfl, hcap, hk, -, hg⟩ := out_one ho.out
  rw [hc] at hk
  exact ⟨g, cap, hv', rfl, hcap, hk, hg, hf', ht', hw'⟩
set_option maxRecDepth 100000 in
set_option maxHeartbeats 3200000 in
theorem on_great (A : Option Addr) (len cap : Nat) (str : ByteArray) (w : World) (h : 5000 < str.size) :
    Calls Tryd.prog 3 #[.slice A len cap, .string str] w fun e w' => e = .returned (.bool true) ∧ Below w.heap.size w w' := by
  have c1 : decide ((5000 : Int) < (str.size : Int)) = true := decide_eq_true (by omega)
  clear h
  go_enter Tryd.func3, Tryd.ntmps3
  go_wp2_with ((with_reducible refine (fixed_any _).mono ?_); rintro e w1 ⟨rfl, hb1⟩)
  go_ret
  exact ⟨rfl, hb1⟩
set_option maxRecDepth 100000 in
set_option maxHeartbeats 3200000 in
theorem on_great2 (A : Option Addr) (len cap : Nat) (str : ByteArray) (w : World) (h0 : str.size ≤ 5000) (h : 20 < len) :
    Calls Tryd.prog 3 #[.slice A len cap, .string str] w fun e w' => e = .returned (.bool true) ∧ Below w.heap.size w w' := by
  have c0 : decide ((5000 : Int) < (str.size : Int)) = false := decide_eq_false (by omega)
  have c1 : decide ((20 : Int) < (len : Int)) = true := decide_eq_true (by omega)
  clear h h0
  go_enter Tryd.func3, Tryd.ntmps3
  go_wp2_with ((with_reducible refine (fixed_any _).mono ?_); rintro e w1 ⟨rfl, hb1⟩)
  go_ret
  exact ⟨rfl, hb1⟩
set_option maxRecDepth 100000 in
set_option maxHeartbeats 6400000 in
theorem on_small (A : Option Addr) (len cap : Nat) (str : ByteArray) (w : World) (h : StrRow w A len cap) (h1 : str.size ≤ 5000) (h2 : len ≤ 20) :
    Calls Tryd.prog 3 #[.slice A len cap, .string str] w fun e w' => e = .returned (.bool true) ∧ Below w.heap.size w w' := by
  have c0 : decide ((5000 : Int) < (str.size : Int)) = false := decide_eq_false (by omega)
  have c1 : decide ((20 : Int) < (len : Int)) = false := decide_eq_false (by omega)
  have HR := Lib.hid h
  have HS := Lib.hid h1
  have CN := Lib.hid (fun w => new_any w)
  have CF := Lib.hid (fun w => fixed_any w)
  have hlen : (len : Int) ≤ 20 := by omega
  clear h h1 h2
  go_enter Tryd.func3, Tryd.ntmps3
  have TK := Lib.hid trivial
  go_upto_region 4 with (first
    | (clear TK; (with_reducible refine (CN.out _).mono ?_); rintro e w1 ⟨rfl, hf1, hb1⟩)
    | ((with_reducible refine (CN.out _).mono ?_); rintro e w2 ⟨rfl, hf2, hb2⟩))
  have HF := Lib.hid (feed_below hf1 hb2)
  have HG := Lib.hid hf2
  have HB := Lib.hid (below_step hb1 hb2)
  have hlt := feed_lt hf1
  generalize w1.heap.size = bg at *
  have hbg : w.heap.size ≠ bg := by omega
  have hbw : w.heap.size ≤ bg := by omega
  clear hf1 hb1 hf2 hb2 hlt c0 c1
  go_wp2_with (fail)
  go_loopw [28] (fun v28 w' => ∃ (k : Nat) (hvk : Value), k ≤ len ∧ v28 = .int .i64 k ∧ Hid (FeedAt w' w.heap.size st0 hvk) ∧ Hid (FeedAt w' bg st0 (.slice none 0 0)) ∧ Hid (Below w.heap.size w w') ∧ Hid (New hvk w)) (fun i _ => len - (intOf i).toNat)
  case atStart => exact ⟨0, .slice none 0 0, Nat.zero_le _, rfl, HF, HG, HB, Lib.hid (new_nil w)⟩
  case round =>
    clear HF HG HB
    obtain ⟨k, hvk, hk, rfl, HF, HG, HB, HNW⟩ := hrel
    by_cases hlt : k < len
    · obtain ⟨nb, off, line, rfl, hnb, e0⟩ := strRow_at HR.out k hlt
      have hnw : nb < wr.heap.size := Nat.lt_of_lt_of_le hnb HB.out.size
      rw [← HB.out.cell (p := ⟨nb, off + k, none⟩) hnb] at e0
      have vk : IntKind.i64.wrap ((k : Int) + 1) = (k : Int) + 1 := IntWalk.i64_in _ ⟨by omega, by omega⟩
      cases h3 : decide ((3000 : Int) < (line.size : Int)) with
      | true =>
        go_wp2_with ((with_reducible refine (CF.out _).mono ?_); rintro e w7 ⟨rfl, hb7⟩)
        go_ret
        exact ⟨rfl, by repeat (first | (with_reducible exact HB.out) | exact below_step HB.out hb7 | apply pw_below_drewN | apply below_drew)⟩
      | false =>
        have hl3 : (line.size : Int) ≤ 3000 := by have := of_decide_eq_false h3; omega
        go_wp2_with (fail)
        clear e0
        go_loopw [38] (fun v38 w' => ∃ (j : Nat), j ≤ line.size ∧ v38 = .int .i64 j ∧ Hid (∀ i : Nat, i < j → bt line (i : Int) ≠ 10) ∧ Hid (FeedAt w' w.heap.size st0 hvk) ∧ Hid (FeedAt w' bg st0 (.slice none 0 0)) ∧ Hid (Below w.heap.size w w')) (fun i _ => line.size - (intOf i).toNat)
        case atStart => exact ⟨0, Nat.zero_le _, rfl, Lib.hid (fun i hi => absurd hi (Nat.not_lt_zero i)), HF, HG, HB⟩
        case round =>
          clear HF HG HB
          obtain ⟨j, hj, rfl, HX, HF, HG, HB⟩ := hrel
          by_cases hlj : j < line.size
          · obtain ⟨y, hy⟩ : ∃ y : Int, y = (j : Int) := ⟨_, rfl⟩
            have vj : IntKind.i64.wrap (y + 1) = y + 1 := IntWalk.i64_in _ ⟨by omega, by omega⟩
            obtain ⟨x, hx⟩ : ∃ x : Int, x = bt line y := ⟨_, rfl⟩
            have hxx := bt_at line y
            rw [← hx] at hxx
            rw [hy] at hx
            have HXX := Lib.hid hx
            have y0 : (0 : Int) ≤ y := by omega
            have y1 : y < (line.size : Int) := by omega
            have y2 : y.toNat < line.size := by omega
            have HY := Lib.hid hy
            rw [← hy]
            clear hx hy
            cases h10 : (x == 10) with
            | true =>
              go_wp2_with ((with_reducible refine (CF.out _).mono ?_); rintro e w7 ⟨rfl, hb7⟩)
              go_ret
              exact ⟨rfl, by repeat (first | (with_reducible exact HB.out) | exact below_step HB.out hb7 | apply pw_below_drewN | apply below_drew)⟩
            | false =>
              have HX2 : Hid (∀ i : Nat, i < j + 1 → bt line (i : Int) ≠ 10) := Lib.hid (fun i hi => by
                by_cases e : i = j
                · subst e
                  rw [← HXX.out]
                  simpa using h10
                · exact HX.out i (by omega))
              go_wp2_with (fail)
              exact ⟨⟨j + 1, by omega, by have := HY.out; go_num, HX2, HF, HG, HB⟩, by have := HY.out; simp [intOf]; omega⟩
          · obtain rfl : j = line.size := by omega
            clear hj hlj
            obtain ⟨c, hc⟩ : ∃ c, c = ansC (lineP (bytesL line)) := ⟨_, rfl⟩
            obtain ⟨d, hd⟩ : ∃ d, d = ansD (lineP (bytesL line)) := ⟨_, rfl⟩
            have HD := Lib.hid (And.intro hc hd)
            have RI := ref_is line
            rw [← hc, ← hd] at RI
            unfold cmV at RI
            clear hc hd
            by_cases hq : line.size = 0
            · have cp := RI line (own_whole line (by rw [List.eq_nil_of_length_eq_zero ((bytesL_len line).trans hq)]; decide)) (by omega)
              have CP := Lib.hid cp
              have c17 : decide ((0 : Int) < (line.size : Int)) = false := decide_eq_false (by omega)
              have c17n : decide (0 < line.size) = false := decide_eq_false (by omega)
              have c17e : (0 < line.size) = False := eq_false (by omega)
              clear cp RI hq
              go_upto_region 19 with (fail)
              clear c17 c17n c17e
              go_upto_region 20 with ((with_reducible refine (CP.out _).mono ?_); rintro e w1 ⟨v, rfl, hkv, hb1⟩; obtain ⟨kA, kc, ek, -⟩ := Kd.Q_slice hkv; obtain ⟨kn, hkn⟩ : ∃ n, n = c.keys.length := ⟨_, rfl⟩; rw [← hkn] at ek; clear hkn; subst ek)
              clear hkv CP
              have HZ1 := Lib.hid (at_new w1 #[.int .i64 c.kind, .slice kA kn kc, .int .u32 c.fl, .int .i64 c.ex, .string c.body, .bool c.quiet, .string c.reply] 28)
              replace HF := Lib.hid (feed_below (feed_below HF.out hb1) (below_alloc (Below.refl _ _) (.cells #[.int .i64 c.kind, .slice kA kn kc, .int .u32 c.fl, .int .i64 c.ex, .string c.body, .bool c.quiet, .string c.reply] 28)))
              replace HG := Lib.hid (feed_below (feed_below HG.out hb1) (below_alloc (Below.refl _ _) (.cells #[.int .i64 c.kind, .slice kA kn kc, .int .u32 c.fl, .int .i64 c.ex, .string c.body, .bool c.quiet, .string c.reply] 28)))
              replace HB := Lib.hid (below_step (below_step HB.out hb1) (below_alloc (Below.refl _ _) (.cells #[.int .i64 c.kind, .slice kA kn kc, .int .u32 c.fl, .int .i64 c.ex, .string c.body, .bool c.quiet, .string c.reply] 28)))
              clear hb1
              generalize w1.alloc (.cells #[.int .i64 c.kind, .slice kA kn kc, .int .u32 c.fl, .int .i64 c.ex, .string c.body, .bool c.quiet, .string c.reply] 28) = w2 at *
              generalize w1.heap.size = z at *
              obtain ⟨t0, t1, t2, t3, t4, t5, t6, -⟩ := at7 HZ1.out
              clear t1 t2 t3 t4 t5 t6 HZ1
              cases h48 : decide ((line.size : Int) ≤ 2048) with
              | true =>
                cases h8 : (c.kind != 8) with
                | true =>
                  go_wp2_with ((with_reducible refine (CF.out _).mono ?_); rintro e w7 ⟨rfl, hb7⟩)
                  go_ret
                  exact ⟨rfl, by repeat (first | (with_reducible exact HB.out) | exact below_step HB.out hb7 | apply pw_below_drewN | apply below_drew)⟩
                | false =>
                  cases hd : decide ((0 : Int) ≤ d) with
                  | true =>
                    go_wp2_with ((with_reducible refine (CF.out _).mono ?_); rintro e w7 ⟨rfl, hb7⟩)
                    go_ret
                    exact ⟨rfl, by repeat (first | (with_reducible exact HB.out) | exact below_step HB.out hb7 | apply pw_below_drewN | apply below_drew)⟩
                  | false =>
                    have TB := Lib.hid (fun W hvx (hf : FeedAt W w.heap.size st0 hvx) => take_bad w.heap.size hvx line W hf (by have := of_decide_eq_false h3; omega) (mem_bt line HX.out) (.inr (by obtain ⟨q1, q2⟩ := HD.out; rw [← q1, ← q2]; exact ⟨by simpa using h8, by have := of_decide_eq_false hd; omega⟩)))
                    go_wp2_with ((with_reducible refine (TB.out _ hvk ?hF).mono ?_); (case hF => exact HF.out); rintro e w3 ⟨g9, cap9, hv9, rfl, hc9, hk9, hg9, HF9, HT9, HW9⟩; have HG9 := Lib.hid (feed_other HG.out HF.out HT9.out hbg.symm nil_apart); have HB9 := Lib.hid (below_turn HB.out HT9.out (Nat.le_refl _) HNW.out); have HN9 := Lib.hid (new_own HNW.out HW9.out HB.out.size); clear HF HG HB HNW HT9 HW9 TB t0)
                    exact ⟨⟨k + 1, hv9, by omega, by go_num, HF9, HG9, HB9, HN9⟩, by simp [intOf]; omega⟩
              | false =>
                have TB := Lib.hid (fun W hvx (hf : FeedAt W w.heap.size st0 hvx) => take_bad w.heap.size hvx line W hf (by have := of_decide_eq_false h3; omega) (mem_bt line HX.out) (.inl (by have := of_decide_eq_false h48; omega)))
                go_wp2_with ((with_reducible refine (TB.out _ hvk ?hF).mono ?_); (case hF => exact HF.out); rintro e w3 ⟨g9, cap9, hv9, rfl, hc9, hk9, hg9, HF9, HT9, HW9⟩; have HG9 := Lib.hid (feed_other HG.out HF.out HT9.out hbg.symm nil_apart); have HB9 := Lib.hid (below_turn HB.out HT9.out (Nat.le_refl _) HNW.out); have HN9 := Lib.hid (new_own HNW.out HW9.out HB.out.size); clear HF HG HB HNW HT9 HW9 TB t0)
                exact ⟨⟨k + 1, hv9, by omega, by go_num, HF9, HG9, HB9, HN9⟩, by simp [intOf]; omega⟩
            · obtain ⟨y, hy⟩ : ∃ y : Int, y = bt line ((line.size - 1 : Nat) : Int) := ⟨_, rfl⟩
              have hyy := bt_nat line (line.size - 1)
              rw [← hy] at hyy
              have hlast := last_bt line (by omega)
              rw [← hy] at hlast
              have vs : IntKind.i64.wrap ((line.size : Int) - 1) = (line.size : Int) - 1 := IntWalk.i64_in _ ⟨by omega, by omega⟩
              have c17 : decide ((0 : Int) < (line.size : Int)) = true := decide_eq_true (by omega)
              have hp0 : 0 < line.size := by omega
              clear hy hq
              cases h13 : (y == 13) with
              | true =>
                have e13 : y = 13 := by simpa using h13
                have cp := RI (line.extract 0 (line.size - 1)) (own_cut line (by omega) (by rw [hlast, e13])) (by rw [ByteArray.size_extract]; omega)
                have CP := Lib.hid cp
                clear cp RI hlast e13
                go_upto_region 19 with (fail)
                clear c17 hp0 vs hyy
                go_upto_region 20 with ((with_reducible refine (CP.out _).mono ?_); rintro e w1 ⟨v, rfl, hkv, hb1⟩; obtain ⟨kA, kc, ek, -⟩ := Kd.Q_slice hkv; obtain ⟨kn, hkn⟩ : ∃ n, n = c.keys.length := ⟨_, rfl⟩; rw [← hkn] at ek; clear hkn; subst ek)
                clear hkv CP
                have HZ1 := Lib.hid (at_new w1 #[.int .i64 c.kind, .slice kA kn kc, .int .u32 c.fl, .int .i64 c.ex, .string c.body, .bool c.quiet, .string c.reply] 28)
                replace HF := Lib.hid (feed_below (feed_below HF.out hb1) (below_alloc (Below.refl _ _) (.cells #[.int .i64 c.kind, .slice kA kn kc, .int .u32 c.fl, .int .i64 c.ex, .string c.body, .bool c.quiet, .string c.reply] 28)))
                replace HG := Lib.hid (feed_below (feed_below HG.out hb1) (below_alloc (Below.refl _ _) (.cells #[.int .i64 c.kind, .slice kA kn kc, .int .u32 c.fl, .int .i64 c.ex, .string c.body, .bool c.quiet, .string c.reply] 28)))
                replace HB := Lib.hid (below_step (below_step HB.out hb1) (below_alloc (Below.refl _ _) (.cells #[.int .i64 c.kind, .slice kA kn kc, .int .u32 c.fl, .int .i64 c.ex, .string c.body, .bool c.quiet, .string c.reply] 28)))
                clear hb1
                generalize w1.alloc (.cells #[.int .i64 c.kind, .slice kA kn kc, .int .u32 c.fl, .int .i64 c.ex, .string c.body, .bool c.quiet, .string c.reply] 28) = w2 at *
                generalize w1.heap.size = z at *
                obtain ⟨t0, t1, t2, t3, t4, t5, t6, -⟩ := at7 HZ1.out
                clear t1 t2 t3 t4 t5 t6 HZ1
                cases h48 : decide ((line.size : Int) ≤ 2048) with
                | true =>
                  cases h8 : (c.kind != 8) with
                  | true =>
                    go_wp2_with ((with_reducible refine (CF.out _).mono ?_); rintro e w7 ⟨rfl, hb7⟩)
                    go_ret
                    exact ⟨rfl, by repeat (first | (with_reducible exact HB.out) | exact below_step HB.out hb7 | apply pw_below_drewN | apply below_drew)⟩
                  | false =>
                    cases hd : decide ((0 : Int) ≤ d) with
                    | true =>
                      go_wp2_with ((with_reducible refine (CF.out _).mono ?_); rintro e w7 ⟨rfl, hb7⟩)
                      go_ret
                      exact ⟨rfl, by repeat (first | (with_reducible exact HB.out) | exact below_step HB.out hb7 | apply pw_below_drewN | apply below_drew)⟩
                    | false =>
                      have TB := Lib.hid (fun W hvx (hf : FeedAt W w.heap.size st0 hvx) => take_bad w.heap.size hvx line W hf (by have := of_decide_eq_false h3; omega) (mem_bt line HX.out) (.inr (by obtain ⟨q1, q2⟩ := HD.out; rw [← q1, ← q2]; exact ⟨by simpa using h8, by have := of_decide_eq_false hd; omega⟩)))
                      go_wp2_with ((with_reducible refine (TB.out _ hvk ?hF).mono ?_); (case hF => exact HF.out); rintro e w3 ⟨g9, cap9, hv9, rfl, hc9, hk9, hg9, HF9, HT9, HW9⟩; have HG9 := Lib.hid (feed_other HG.out HF.out HT9.out hbg.symm nil_apart); have HB9 := Lib.hid (below_turn HB.out HT9.out (Nat.le_refl _) HNW.out); have HN9 := Lib.hid (new_own HNW.out HW9.out HB.out.size); clear HF HG HB HNW HT9 HW9 TB t0)
                      exact ⟨⟨k + 1, hv9, by omega, by go_num, HF9, HG9, HB9, HN9⟩, by simp [intOf]; omega⟩
                | false =>
                  have TB := Lib.hid (fun W hvx (hf : FeedAt W w.heap.size st0 hvx) => take_bad w.heap.size hvx line W hf (by have := of_decide_eq_false h3; omega) (mem_bt line HX.out) (.inl (by have := of_decide_eq_false h48; omega)))
                  go_wp2_with ((with_reducible refine (TB.out _ hvk ?hF).mono ?_); (case hF => exact HF.out); rintro e w3 ⟨g9, cap9, hv9, rfl, hc9, hk9, hg9, HF9, HT9, HW9⟩; have HG9 := Lib.hid (feed_other HG.out HF.out HT9.out hbg.symm nil_apart); have HB9 := Lib.hid (below_turn HB.out HT9.out (Nat.le_refl _) HNW.out); have HN9 := Lib.hid (new_own HNW.out HW9.out HB.out.size); clear HF HG HB HNW HT9 HW9 TB t0)
                  exact ⟨⟨k + 1, hv9, by omega, by go_num, HF9, HG9, HB9, HN9⟩, by simp [intOf]; omega⟩
              | false =>
                have cp := RI line (own_whole line (by rw [hlast]; intro e; injection e with e; rw [e] at h13; simp at h13)) (by omega)
                have CP := Lib.hid cp
                clear cp RI hlast
                go_upto_region 19 with (fail)
                clear c17 hp0 vs hyy
                go_upto_region 20 with ((with_reducible refine (CP.out _).mono ?_); rintro e w1 ⟨v, rfl, hkv, hb1⟩; obtain ⟨kA, kc, ek, -⟩ := Kd.Q_slice hkv; obtain ⟨kn, hkn⟩ : ∃ n, n = c.keys.length := ⟨_, rfl⟩; rw [← hkn] at ek; clear hkn; subst ek)
                clear hkv CP
                have HZ1 := Lib.hid (at_new w1 #[.int .i64 c.kind, .slice kA kn kc, .int .u32 c.fl, .int .i64 c.ex, .string c.body, .bool c.quiet, .string c.reply] 28)
                replace HF := Lib.hid (feed_below (feed_below HF.out hb1) (below_alloc (Below.refl _ _) (.cells #[.int .i64 c.kind, .slice kA kn kc, .int .u32 c.fl, .int .i64 c.ex, .string c.body, .bool c.quiet, .string c.reply] 28)))
                replace HG := Lib.hid (feed_below (feed_below HG.out hb1) (below_alloc (Below.refl _ _) (.cells #[.int .i64 c.kind, .slice kA kn kc, .int .u32 c.fl, .int .i64 c.ex, .string c.body, .bool c.quiet, .string c.reply] 28)))
                replace HB := Lib.hid (below_step (below_step HB.out hb1) (below_alloc (Below.refl _ _) (.cells #[.int .i64 c.kind, .slice kA kn kc, .int .u32 c.fl, .int .i64 c.ex, .string c.body, .bool c.quiet, .string c.reply] 28)))
                clear hb1
                generalize w1.alloc (.cells #[.int .i64 c.kind, .slice kA kn kc, .int .u32 c.fl, .int .i64 c.ex, .string c.body, .bool c.quiet, .string c.reply] 28) = w2 at *
                generalize w1.heap.size = z at *
                obtain ⟨t0, t1, t2, t3, t4, t5, t6, -⟩ := at7 HZ1.out
                clear t1 t2 t3 t4 t5 t6 HZ1
                cases h48 : decide ((line.size : Int) ≤ 2048) with
                | true =>
                  cases h8 : (c.kind != 8) with
                  | true =>
                    go_wp2_with ((with_reducible refine (CF.out _).mono ?_); rintro e w7 ⟨rfl, hb7⟩)
                    go_ret
                    exact ⟨rfl, by repeat (first | (with_reducible exact HB.out) | exact below_step HB.out hb7 | apply pw_below_drewN | apply below_drew)⟩
                  | false =>
                    cases hd : decide ((0 : Int) ≤ d) with
                    | true =>
                      go_wp2_with ((with_reducible refine (CF.out _).mono ?_); rintro e w7 ⟨rfl, hb7⟩)
                      go_ret
                      exact ⟨rfl, by repeat (first | (with_reducible exact HB.out) | exact below_step HB.out hb7 | apply pw_below_drewN | apply below_drew)⟩
                    | false =>
                      have TB := Lib.hid (fun W hvx (hf : FeedAt W w.heap.size st0 hvx) => take_bad w.heap.size hvx line W hf (by have := of_decide_eq_false h3; omega) (mem_bt line HX.out) (.inr (by obtain ⟨q1, q2⟩ := HD.out; rw [← q1, ← q2]; exact ⟨by simpa using h8, by have := of_decide_eq_false hd; omega⟩)))
                      go_wp2_with ((with_reducible refine (TB.out _ hvk ?hF).mono ?_); (case hF => exact HF.out); rintro e w3 ⟨g9, cap9, hv9, rfl, hc9, hk9, hg9, HF9, HT9, HW9⟩; have HG9 := Lib.hid (feed_other HG.out HF.out HT9.out hbg.symm nil_apart); have HB9 := Lib.hid (below_turn HB.out HT9.out (Nat.le_refl _) HNW.out); have HN9 := Lib.hid (new_own HNW.out HW9.out HB.out.size); clear HF HG HB HNW HT9 HW9 TB t0)
                      exact ⟨⟨k + 1, hv9, by omega, by go_num, HF9, HG9, HB9, HN9⟩, by simp [intOf]; omega⟩
                | false =>
                  have TB := Lib.hid (fun W hvx (hf : FeedAt W w.heap.size st0 hvx) => take_bad w.heap.size hvx line W hf (by have := of_decide_eq_false h3; omega) (mem_bt line HX.out) (.inl (by have := of_decide_eq_false h48; omega)))
                  go_wp2_with ((with_reducible refine (TB.out _ hvk ?hF).mono ?_); (case hF => exact HF.out); rintro e w3 ⟨g9, cap9, hv9, rfl, hc9, hk9, hg9, HF9, HT9, HW9⟩; have HG9 := Lib.hid (feed_other HG.out HF.out HT9.out hbg.symm nil_apart); have HB9 := Lib.hid (below_turn HB.out HT9.out (Nat.le_refl _) HNW.out); have HN9 := Lib.hid (new_own HNW.out HW9.out HB.out.size); clear HF HG HB HNW HT9 HW9 TB t0)
                  exact ⟨⟨k + 1, hv9, by omega, by go_num, HF9, HG9, HB9, HN9⟩, by simp [intOf]; omega⟩
    · obtain rfl : k = len := by omega
      obtain ⟨R, hR⟩ : ∃ R, R = takeA st0 [] (bytesL str) := ⟨_, rfl⟩
      have tf := fun W hvx (hf : FeedAt W w.heap.size st0 hvx) => take_any w.heap.size st0 hvx str W hf inv0 (by have := HS.out; omega)
      have tg := fun W (hf : FeedAt W bg st0 (.slice none 0 0)) => take_any bg st0 (.slice none 0 0) str W hf inv0 (by have := HS.out; omega)
      rw [← hR] at tf tg
      unfold TakesTo at tf tg
      have HLL := Lib.hid (show R.2.length ≤ 1000000 from by
        have h8 := takeA_len (bytesL str) st0 []
        have h9 := HS.out
        rw [← hR, bytesL_len] at h8
        have h7 : ([] : List Cm).length = 0 := rfl
        omega)
      have TF := Lib.hid tf
      have TG := Lib.hid tg
      clear tf tg hR
      have TK := Lib.hid trivial
      have TL := Lib.hid trivial
      go_wp2_with (first
        | (go_at_call 7; (with_reducible refine (CF.out _).mono ?_); rintro e w4 ⟨rfl, hb4⟩; replace HF := Lib.hid (feed_below HF.out hb4); replace HG := Lib.hid (feed_below HG.out hb4); replace HB := Lib.hid (below_step HB.out hb4); clear hb4)
        | (go_at_call 10; clear TK; (with_reducible refine (TF.out _ hvk ?hF).mono ?_); (case hF => exact HF.out); rintro e w3 ⟨v, hv2, rfl, HO, HF2, -, HT2, HW2, -⟩; replace HG := Lib.hid (feed_other HG.out HF.out HT2.out hbg.symm nil_apart); replace HB := Lib.hid (below_turn HB.out HT2.out (Nat.le_refl _) HNW.out); clear HF; have HF := HF2; clear HF2 HT2 HW2 TF)
        | (go_at_call 10; (with_reducible refine (TG.out _ ?hF).mono ?_); (case hF => exact HG.out); rintro e w3 ⟨v2, hv3, rfl, HOv, HG2, -, HT2, -, -⟩; replace HF := Lib.hid (feed_other HF.out HG.out HT2.out hbg apart_nil); replace HO := Lib.hid (out_turn HG.out HO.out HT2.out); replace HB := Lib.hid (below_turn HB.out HT2.out hbw (new_nil w)); clear HG; have HG := HG2; clear HT2 HG2 TG)
        | (go_at_call 11; (with_reducible refine (same_calls HO.out HOv.out HLL.out).mono ?_); rintro e w4 ⟨rfl, hb4⟩; replace HF := Lib.hid (feed_below HF.out hb4); replace HG := Lib.hid (feed_below HG.out hb4); replace HB := Lib.hid (below_step HB.out hb4); clear hb4; clear HO HOv)
        | (go_at_call 12; clear TL; (with_reducible refine (held_any _ _ _ _ HF.out).mono ?_); rintro e w4 ⟨rfl, hb4⟩; replace HF := Lib.hid (feed_below HF.out hb4); replace HG := Lib.hid (feed_below HG.out hb4); replace HB := Lib.hid (below_step HB.out hb4); clear hb4)
        | (go_at_call 12; (with_reducible refine (held_any _ _ _ _ HG.out).mono ?_); rintro e w4 ⟨rfl, hb4⟩; replace HF := Lib.hid (feed_below HF.out hb4); replace HG := Lib.hid (feed_below HG.out hb4); replace HB := Lib.hid (below_step HB.out hb4); clear hb4))
      go_ret
      exact ⟨by go_num, by repeat (first | exact HB.out | apply pw_below_drewN | apply below_drew)⟩
theorem on_walk (A : Option Addr) (len cap : Nat) (str : ByteArray) (w : World) (h : StrRow w A len cap) :
    Calls Tryd.prog 3 #[.slice A len cap, .string str] w fun e w' => e = .returned (.bool true) ∧ Below w.heap.size w w' := by
  by_cases h1 : 5000 < str.size
  · exact on_great A len cap str w h1
  · by_cases h2 : 20 < len
    · exact on_great2 A len cap str w (by omega) h2
    · exact on_small A len cap str w h (by omega) (by omega)
end Go.Proofs.YthinmioognadpaaDoor.Feed

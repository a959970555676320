/- New of a request (own text; written by wip/tools/gen_asknew.py). -/
import Derived.Test.YtnbcbokdbenbiaaAskTake
namespace Go.Proofs.Ytnbcbokdbenbiaa.Ask
open Go.RowKit Go.Proofs.Ytnbcbokdbenbiaa.Mem Go.Lib Go.Proofs.YtnbcbokdbenbiaaW.PrintWords Go.Proofs.YtnbcbokdbenbiaaW.PrintLast Go.Proofs.YtnbcbokdbenbiaaW.PrintMore
set_option linter.unusedVariables false
set_option linter.unusedSimpArgs false
theorem fresh_any (acc : List Int) (n : Int) : ((fresh acc).any fun x => x.node == n) = acc.contains n := by
  unfold fresh
  induction acc with
  | nil => rfl
  | cons a l ih => rw [List.map_cons, List.any_cons, ih, List.contains_cons]; congr 1; exact Bool.beq_comm
theorem fresh_snoc (acc : List Int) (n : Int) : fresh acc ++ [⟨n, false, rep0⟩] = fresh (acc ++ [n]) := by simp [fresh]
theorem dedup_step (acc ns : List Int) (k : Nat) (hk : k < ns.length) : dedup acc (ns.drop k) = dedup (if acc.contains ns[k] then acc else acc ++ [ns[k]]) (ns.drop (k + 1)) := by
  rw [← List.getElem_cons_drop (h := hk)]
  rfl
set_option maxRecDepth 100000 in
set_option maxHeartbeats 3200000 in
theorem new_row (ns : List Int) (nb off cap : Nat) (u : Int) (w : World) (hl : ns.length ≤ 100) (hnb : nb < w.heap.size) (hcell : ∀ i (h : i < ns.length), w.cell? ⟨nb, off + i, none⟩ = some (.int .u8 ns[i])) :
    Calls Try.prog 8 #[.slice (some ⟨nb, off, none⟩) ns.length cap, .int .u64 u] w fun e w' => ∃ g, e = .returned (.pointer (some ⟨w.heap.size, 0, none⟩)) ∧ Req w' w.heap.size g u (newA ns) ∧ w.heap.size ≤ g ∧ g < w'.heap.size ∧ Below w.heap.size w w' := by
  have HC := Lib.hid hcell
  have HD := Lib.hid (fun acc k hk => dedup_step acc ns k hk)
  have ef := Lib.hid (enters_of Try.func16 (by kernel_rfl) rfl)
  clear hcell
  obtain ⟨m, hm⟩ : ∃ m, m = ns.length := ⟨_, rfl⟩
  rw [← hm] at hl ⊢
  have HM := Lib.hid hm
  clear hm
  go_enter Try.func8, Try.ntmps8
  go_wp2_with (fail)
  have ab := at_new w #[.slice none 0 0, .int .u64 u] 51
  have hb0 := below_al (o := .cells #[.slice none 0 0, .int .u64 u] 51) (Below.refl w.heap.size w)
  go_loopw [13] (fun v13 w' => ∃ (k : Nat) (acc : List Int) (v : Value), k ≤ m ∧ v13 = .int .i64 k ∧ Hid (dedup acc (ns.drop k) = dedup [] ns) ∧ Hid (acc.length ≤ k) ∧ Hid (acc = [] → v = .slice none 0 0) ∧ Hid (At w' w.heap.size #[v, .int .u64 u] 51) ∧ Hid (kAn.R 54 w' w.heap.size (fun _ => True) v (fresh acc)) ∧ Hid (Below w.heap.size w w')) (fun i _ => m - (intOf i).toNat)
  case atStart => exact ⟨0, [], .slice none 0 0, by omega, rfl, Lib.hid rfl, Lib.hid (Nat.le_refl _), Lib.hid (fun _ => rfl), Lib.hid ab, Lib.hid (Kd.R_nil _ _ _ _ _), Lib.hid hb0⟩
  case round =>
    clear ab hb0
    obtain ⟨k, acc, v, hk, rfl, HE, HL, HN, AB, HU, HB⟩ := hrel
    by_cases hlt : k < m
    · have hkn : k < ns.length := by rw [← HM.out]; exact hlt
      have e0 := HC.out k hkn
      have hd := HD.out acc k hkn
      rw [HE.out] at hd
      have hnw : nb < wr.heap.size := Nat.lt_of_lt_of_le hnb HB.out.size
      rw [← HB.out.cell (p := ⟨nb, off + k, none⟩) hnb] at e0
      obtain ⟨n, hn⟩ : ∃ n, n = ns[k] := ⟨_, rfl⟩
      rw [← hn] at e0 hd
      have HD2 := Lib.hid hd
      clear hn hd
      go_upto_region 5 with (fail)
      have AB1 := Lib.hid (at_alloc (o := .cells #[.int .u8 n] 5) AB.out)
      have HU1 := Lib.hid (Kd.R_alloc HU.out (.cells #[.int .u8 n] 5))
      have HB1 := Lib.hid (below_al (o := .cells #[.int .u8 n] 5) HB.out)
      have AY1 := Lib.hid (at_new wr #[.int .u8 n] 5)
      have hyl := AY1.out.lt
      clear AB HU HB e0
      generalize wr.alloc (.cells #[.int .u8 n] 5) = w1 at *
      generalize wr.heap.size = y at *
      obtain ⟨gg, -, hrow, -⟩ := row_of_R HU1.out (fun h => HN.out (by simpa [fresh] using h))
      have CC := Lib.hid (contains_any 16 #[.pointer (some ⟨y, 0, none⟩)] ef.out (fun x => x.node == n) gg v (fresh acc) w1 hrow (by have := HL.out; simp only [fresh, List.length_map]; omega) (pred_node n y w1 hyl ((AY1.out.cell 0).trans rfl)))
      rw [fresh_any] at CC
      have c0 := AB1.out.cell 0
      have vk : IntKind.i64.wrap ((k : Int) + 1) = (k : Int) + 1 := IntWalk.i64_in _ ⟨by omega, by omega⟩
      clear hrow
      cases hc : acc.contains n with
      | true =>
        rw [hc] at CC
        rw [hc, if_pos rfl] at HD2
        go_wp2_with (go_at_call 15; (with_reducible refine (CC.out).mono ?_); rintro e w2 ⟨rfl, hb2⟩)
        exact ⟨⟨k + 1, acc, v, by omega, by go_num, Lib.hid HD2.out.symm, Lib.hid (by have := HL.out; omega), HN, Lib.hid (at_below AB1.out hb2), Lib.hid (Kd.R_below HU1.out hb2), Lib.hid (below_on HB1.out hb2)⟩, by simp [intOf]; omega⟩
      | false =>
        rw [hc] at CC
        rw [hc, if_neg (by simp)] at HD2
        have hal : Hid (acc.length ≤ 100) := Lib.hid (by have := HL.out; omega)
        go_wp2_with (go_at_call 15; (with_reducible refine (CC.out).mono ?_); rintro e w2 ⟨rfl, hb2⟩; have AB2 := Lib.hid (at_drew (at_below AB1.out hb2)); have AY2 := Lib.hid (at_drew (at_below AY1.out hb2)); have HU3 := Lib.hid (Kd.R_drew (Kd.R_below HU1.out hb2)); have HB3 := Lib.hid (below_drew (below_on HB1.out hb2)); have AB3 := AB2; have AY3 := AY2; clear AB1 AY1 HU1 HB1 hb2 c0 CC)
        refine start_ (n := 12) (S := fun w' => w'.cell? ⟨w.heap.size, 0, none⟩ = some v ∧ w'.cell? ⟨y, 0, none⟩ = some (.int .u8 n)) (ds := [8, 11]) #[false, false, false, false, false, false, false, false, false, false, false, false] (by kernel_rfl) rfl rfl ⟨(At.cell AB2.out 0).trans rfl, (At.cell AY2.out 0).trans rfl⟩ (fun hHeld => ?_)
        generalize w2.drew = w3 at HU3 AB3 AY3 HB3 hHeld ⊢
        refine pure_ (i := 0) (N := some 24) (v := ?_) (a' := ?_) #[true, false, false, false, false, false, false, false, false, false, false, false] rfl rfl (by kernel_rfl) (fun _ _ _ h => h) (Or.inl ⟨by rfl, ?_⟩) ?_ ?_
        rotate_left
        · intro w'
          go_simp
          with_reducible rfl
        rotate_left
        · simp only [Act.put, List.setIfInBounds_toArray, List.set_cons_zero, List.set_cons_succ, i64_w, i32_w]
          rfl
        refine pure_ (i := 1) (N := some 25) (v := ?_) (a' := ?_) #[true, true, false, false, false, false, false, false, false, false, false, false] rfl rfl (by kernel_rfl) (fun _ _ _ h => h) (Or.inl ⟨by rfl, ?_⟩) ?_ ?_
        rotate_left
        · intro w'
          go_simp
          with_reducible rfl
        rotate_left
        · simp only [Act.put, List.setIfInBounds_toArray, List.set_cons_zero, List.set_cons_succ, i64_w, i32_w]
          rfl
        refine pure_ (i := 2) (N := some 26) (v := ?_) (a' := ?_) #[true, true, true, false, false, false, false, false, false, false, false, false] rfl rfl (by kernel_rfl) (fun _ _ _ h => h) (Or.inl ⟨by rfl, ?_⟩) ?_ ?_
        rotate_left
        · intro w'
          go_simp
          with_reducible rfl
        rotate_left
        · simp only [Act.put, List.setIfInBounds_toArray, List.set_cons_zero, List.set_cons_succ, i64_w, i32_w]
          rfl
        refine pure_ (i := 3) (N := some 27) (v := ?_) (a' := ?_) #[true, true, true, true, false, false, false, false, false, false, false, false] rfl rfl (by kernel_rfl) (fun _ _ _ h => h) (Or.inl ⟨by rfl, ?_⟩) ?_ ?_
        rotate_left
        · intro w'
          go_simp
          with_reducible rfl
        rotate_left
        · simp only [Act.put, List.setIfInBounds_toArray, List.set_cons_zero, List.set_cons_succ, i64_w, i32_w]
          rfl
        refine take_ (i := 4) (N := some 28) (v := ?_) (a' := ?_) #[true, true, true, true, true, false, false, false, false, false, false, false] rfl rfl (by kernel_rfl) (fun _ _ _ h => h) (Or.inl ⟨by rfl, ?_⟩) hHeld ?_ ?_
        rotate_left
        · rintro w' ⟨s0, s1⟩
          go_simp
          with_reducible rfl
        rotate_left
        · simp only [Act.put, List.setIfInBounds_toArray, List.set_cons_zero, List.set_cons_succ, i64_w, i32_w]
          rfl
        refine take_ (i := 5) (N := some 29) (v := ?_) (a' := ?_) #[true, true, true, true, true, true, false, false, false, false, false, false] rfl rfl (by kernel_rfl) (fun _ _ _ h => h) (Or.inl ⟨by rfl, ?_⟩) hHeld ?_ ?_
        rotate_left
        · rintro w' ⟨s0, s1⟩
          go_simp
          with_reducible rfl
        rotate_left
        · simp only [Act.put, List.setIfInBounds_toArray, List.set_cons_zero, List.set_cons_succ, i64_w, i32_w]
          rfl
        refine pure_ (i := 6) (N := some 30) (v := ?_) (a' := ?_) #[true, true, true, true, true, true, true, false, false, false, false, false] rfl rfl (by kernel_rfl) (fun _ _ _ h => h) (Or.inl ⟨by rfl, ?_⟩) ?_ ?_
        rotate_left
        · intro w'
          go_simp
          with_reducible rfl
        rotate_left
        · simp only [Act.put, List.setIfInBounds_toArray, List.set_cons_zero, List.set_cons_succ, i64_w, i32_w]
          rfl
        refine one_ (i := 7) (N := some 31) #[true, true, true, true, true, true, true, true, false, false, false, false] rfl rfl (by kernel_rfl) (by decide) (fun K hK => ?_)
        refine value_ (w1 := ?_) (v := ?_) (by rfl) rfl ?_ ?_
        rotate_left 2
        · go_simp
          constructor
          · rfl
          · rfl
        refine hK.out _ _ ⟨(At.cell (at_alloc AB3.out) 0).trans rfl, (At.cell (at_alloc AY3.out) 0).trans rfl⟩ (fun hHeld => ?_)
        clear hK K
        refine norm_ (a' := ?_) ?_ ?_
        rotate_left
        · show Act.put _ (some 31) _ = _
          simp only [Act.put, List.setIfInBounds_toArray, List.set_cons_zero, List.set_cons_succ, i64_w, i32_w]
          rfl
        refine last_ (i := 8) (N := some 32) #[true, true, true, true, true, true, true, true, true, false, false, false] rfl rfl (by kernel_rfl) (by decide) (fun K hK => ?_)
        refine Kd.R_append_step kAn (w0 := w) w.heap.size (by rfl) (.tmp 28) (.tmp 31) 49 54 (.agg #[(.int .u8 0), (.bool false), (.bool false), (.bool false), (.string ⟨#[]⟩), (.int .u64 0), (.int .u32 0), (.int .u8 0), (.int .u8 0), (.int .u32 0), (.int .u64 0), (.string ⟨#[]⟩)]) 80 rfl Try.underlying49 infoAn rfl (by decide) (by omega) v (fresh acc) ⟨n, false, rep0⟩ (ansV ⟨n, false, rep0⟩) (fun _ => True) (fun _ => False) rfl rfl ?aP (fun _ hk => hk.elim) ?aF ?aO ?aB ?aS ?aL ?_
        (case aP => exact kAn_mkM _ _ _ _)
        (case aF => exact (fun _ _ => trivial))
        (case aO => exact HU3.out)
        (case aB => exact HB3.out)
        (case aS => exact HB3.out.size)
        (case aL => have := hal.out; simp only [fresh, List.length_map]; omega)
        intro v1 w4 ho hb4 hg4 hat
        have AB4 := Lib.hid (show At w4 w.heap.size #[v, .int .u64 u] 51 from (hg4.block _ AB3.out.lt (Kd.R_ne HU3.out AB3.out (by decide))).trans AB3.out)
        have HU4 := Lib.hid ho
        have HB4 := Lib.hid hb4
        clear ho hb4 hg4 hat HU3 HB3 AB3 AY3
        obtain ⟨A9, c9, ev⟩ := Kd.R_slice HU4.out
        obtain ⟨q9, hq9⟩ : ∃ q, q = (fresh acc ++ [(⟨n, false, rep0⟩ : An)]).length := ⟨_, rfl⟩
        rw [← hq9] at ev
        clear hq9
        subst ev
        refine hK.out _ _ ?_
        clear hK K
        refine norm_ (a' := ?_) ?_ ?_
        rotate_left
        · show Act.put _ (some 32) _ = _
          simp only [Act.put, List.setIfInBounds_toArray, List.set_cons_zero, List.set_cons_succ, i64_w, i32_w]
          rfl
        refine pure_ (i := 9) (N := some 33) (v := ?_) (a' := ?_) #[true, true, true, true, true, true, true, true, true, true, false, false] rfl rfl (by kernel_rfl) (fun _ _ _ h => h) (Or.inl ⟨by rfl, ?_⟩) ?_ ?_
        rotate_left
        · intro w'
          go_simp
          with_reducible rfl
        rotate_left
        · simp only [Act.put, List.setIfInBounds_toArray, List.set_cons_zero, List.set_cons_succ, i64_w, i32_w]
          rfl
        refine pure_ (i := 10) (N := some 34) (v := ?_) (a' := ?_) #[true, true, true, true, true, true, true, true, true, true, true, false] rfl rfl (by kernel_rfl) (fun _ _ _ h => h) (Or.inl ⟨by rfl, ?_⟩) ?_ ?_
        rotate_left
        · intro w'
          go_simp
          with_reducible rfl
        rotate_left
        · simp only [Act.put, List.setIfInBounds_toArray, List.set_cons_zero, List.set_cons_succ, i64_w, i32_w]
          rfl
        refine last_ (i := 11) (N := none) #[true, true, true, true, true, true, true, true, true, true, true, true] rfl rfl (by kernel_rfl) (by decide) (fun K hK => ?_)
        have s11 := At.cell AB4.out 0
        have f11 := At.free AB4.out 0
        refine skip_ (w1 := ?_) (by rfl) rfl ?_ ?_
        rotate_left
        · go_simp
          rfl
        refine hK.out _ _ ?_
        clear hK K
        refine done_ (by kernel_rfl) ?_
        clear AB2 AY2
        try go_wp2_with (fail)
        rw [fresh_snoc] at HU4
        refine ⟨⟨k + 1, acc ++ [n], .slice A9 q9 c9, by omega, by go_num, Lib.hid HD2.out.symm, Lib.hid (by have := HL.out; rw [List.length_append]; simp; omega), Lib.hid (fun h => by simp at h), Lib.hid ?r1, Lib.hid ?r2, Lib.hid ?r3⟩, by simp [intOf]; omega⟩
        case r1 => repeat (first | (with_reducible exact at_set' AB4.out rfl) | (with_reducible apply at_drewN) | (with_reducible apply at_drew))
        case r2 => (with_reducible repeat (first | apply Kd.R_drewN | apply Kd.R_drew)); exact Kd.R_mono (Kd.R_far (p := ⟨w.heap.size, 0, none⟩) (Kd.R_types HU4.out AB4.out (by decide)) (fun _ hk => hk.2) _) (fun _ _ => trivial)
        case r3 => repeat (first | (with_reducible exact HB4.out) | (with_reducible apply pw_below_drewN) | (with_reducible apply below_drew) | (with_reducible refine below_new ?_ (Nat.le_refl _)))
    · obtain rfl : k = m := by omega
      have he : acc = dedup [] ns := by
        have := HE.out
        rw [HM.out, List.drop_length] at this
        exact this
      have HEE := Lib.hid he
      clear he
      go_wp2_with (fail)
      go_ret
      obtain ⟨g, hgb, hrow, -⟩ := row_of_R HU.out (fun h => HN.out (by simpa [fresh] using h))
      have hnew : fresh acc = newA ns := by unfold newA; rw [HEE.out]
      rw [hnew] at hrow
      have hlen : (newA ns).length ≤ 100 := by have := newA_le ns; rw [← HM.out] at this; omega
      by_cases h0 : 0 < (newA ns).length
      · have hne : w.heap.size ≠ g := by
          intro e
          rcases hrow with ⟨_, h⟩ | ⟨cc, rest, _, _, _, ha⟩
          · rw [h] at h0; simp at h0
          · rw [← e] at ha
            have h1 := AB.out
            unfold At at h1 ha
            rw [h1] at ha
            simp at ha
        exact ⟨g, rfl, ⟨v, AB.out, hrow, fun _ => by omega, hlen⟩, hgb, row_lt hrow h0, HB.out⟩
      · refine ⟨w.heap.size, rfl, ⟨v, AB.out, ?_, fun h => absurd h h0, hlen⟩, Nat.le_refl _, AB.out.lt, HB.out⟩
        rcases hrow with h | ⟨_, _, _, h, _⟩
        · exact .inl h
        · exact absurd h h0
end Go.Proofs.Ytnbcbokdbenbiaa.Ask

/- What the reference's Put comes to: the same bytes as num.Put (own text). -/
import Derived.Test.YtlohnhjfdmldnaaNumPut
import Derived.Test.YtlohnhjfdmldnaaWMore
import Derived.Test.YtlohnhjfdmldnaaWZeros
import Derived.Test.YtlohnhjfdmldnaaWNEv
import Derived.Deep.DeepCutAuto
import Derived.Deep.CutBlock
namespace Go.Proofs.Ytlohnhjfdmldnaa.Num
open Go.RowKit Go.Proofs.YtlohnhjfdmldnaaW.PrintWords Go.Proofs.YtlohnhjfdmldnaaW.PrintLast Go.Proofs.YtlohnhjfdmldnaaW.PrintMore
set_option linter.unusedVariables false
set_option linter.unusedSimpArgs false
theorem infoU8 : (Try.prog.info? 5).map (fun i => (i.zero, i.size, i.bytes)) = some (some (.int .u8 0), 1, 1) := by kernel_rfl

/-- A number without its last j bytes. -/
def sh (n : Int) : Nat → Int
  | 0 => n
  | j + 1 => sh n j / 256
theorem sh_nonneg (n : Int) (h : 0 ≤ n) (j : Nat) : 0 ≤ sh n j := by
  induction j with
  | zero => exact h
  | succ j ih => simp only [sh]; omega
theorem sh_le (n : Int) (h : 0 ≤ n) (j : Nat) : sh n j ≤ n := by
  induction j with
  | zero => exact Int.le_refl _
  | succ j ih => have := sh_nonneg n h j; simp only [sh]; omega
/-- The first m of w bytes. -/
def digs (n : Int) (w m : Nat) : List Int := (List.range m).map fun t => sh n (w - 1 - t) % 256
theorem digs_len (n : Int) (w m : Nat) : (digs n w m).length = m := by simp [digs]
theorem digs_snoc (n : Int) (w m : Nat) : digs n w (m + 1) = digs n w m ++ [sh n (w - 1 - m) % 256] := by simp [digs, List.range_succ]

theorem refList0 (n : Int) (h0 : 0 ≤ n) (h1 : n < 64) : (digs n 1 1).set 0 (IntKind.u64.wrap (IntKind.u64.wrap (rdOf 0 (digs n 1 1) 0)) % 256) = [n] := by
  have e : digs n 1 1 = [n % 256] := by simp [digs, sh, List.range_succ]
  rw [e]
  have h : ∀ x : Int, 0 ≤ x → x < 64 → (IntKind.u64.wrap (IntKind.u64.wrap (x % 256)) % 256) = x := fun x h0 h1 => by
    rw [IntWalk.u64_in (x % 256) ⟨by omega, by omega⟩, IntWalk.u64_in _ ⟨by omega, by omega⟩]; omega
  simp only [rdOf, Int.toNat_zero, List.getD_cons_zero, List.set_cons_zero]
  rw [h _ (by omega) (by omega)]
set_option maxRecDepth 100000 in
set_option maxHeartbeats 800000 in
theorem refPut0 (n : Int) (w : World) (h0 : 0 ≤ n) (h1 : n < 64) :
    Calls Try.prog 42 #[.int .u64 n] w fun e w' => e = .returned (.tuple #[.string (strOfNums [n]), .int .i64 0]) ∧ Below w.heap.size w w' := by
  have HB := Aside0.mk (Below.refl w.heap.size w)
  have c1 : decide (4611686018427387904 ≤ n) = false := by simp; omega
  have t0 : decide (64 ≤ n) = false := by simp; omega
  have t1 : decide (16384 ≤ n) = false := by simp; omega
  have t2 : decide (1073741824 ≤ n) = false := by simp; omega
  go_enter Try.func42, Try.ntmps42
  go_wp2_with (first | ((with_reducible refine gate_dst (N := 18) rfl ?_); refine Kd.R_lit (Kd.int .u8) _ 5 ?hg (N := 18) ?hd (xs := ([] : List Int)) (inner := []) (ok := fun _ => True) (okp := fun _ => True) ?hr ?hp (fun _ hk => hk) trivial (Below.refl _ _) (Nat.le_refl _) (by simp) ?_; (case hd => rfl); (case hg => rfl); (case hr => first | (go_simp; done) | (go_simp; rfl)); (case hp => exact (Reps.none _ _)); intro v115 w9 ho10 hb hg_ hnew_; clear hg_ hnew_; have n0_ := Aside0.mk (Kd.R_lower ho10 (below_size (by repeat (first | (with_reducible first | exact HB.out | apply below_alloc | apply pw_below_drewN | apply below_drew1) | exact HB.out)))); have n1_ := Aside0.mk (below_step (by repeat (first | (with_reducible first | exact HB.out | apply below_alloc | apply pw_below_drewN | apply below_drew1) | exact HB.out)) hb); clear HB; have HO := n0_; have HB := n1_; clear n0_ n1_; clear hb ho10))
  clear c1 t0 t1 t2
  go_loopw [6, 7] (fun v6 v7 w' => ∃ m : Nat, m ≤ 1 ∧ v7 = .int .i64 (0 - (m : Int)) ∧ Aside0 (Kd.R (Kd.int .u8) 5 w' w.heap.size (fun _ => True) v6 (digs n 1 m)) ∧ Aside0 (Below w.heap.size w w')) (fun _ v7 _ => (intOf v7 + 1).toNat)
  case atStart => exact ⟨0, by omega, rfl, HO, HB⟩
  case round =>
    clear HO HB
    obtain ⟨m, hm, rfl, HO, HB⟩ := hrel
    by_cases hlt : m < 1
    · have c2 : decide (0 ≤ (0 - (m : Int))) = true := by simp; omega
      go_wp2
      obtain ⟨wo, rfl⟩ : ∃ wo : World, wo = wr := ⟨_, rfl⟩
      go_loop [8, 9] (fun v8 v9 => ∃ j : Nat, j + m ≤ 0 ∧ v9 = .int .i64 j ∧ v8 = .int .u64 (sh n j)) (fun _ v9 => 1 - (intOf v9).toNat)
      case atStart => exact ⟨0, by omega, rfl, rfl⟩
      case round =>
        obtain ⟨j, hj, rfl, rfl⟩ := hrel
        have s0 := sh_nonneg n (by omega) j
        have s1 := sh_le n (by omega) j
        by_cases hlj : j + m < 0
        · omega
        · have c3 : decide ((j : Int) < 0 - (m : Int)) = false := decide_eq_false (by omega)
          go_wp2_with (first | ((with_reducible refine gate_builtin (b := .append) (xs := #[.tmp 33, .tmp 37]) rfl ?_); at_builtin; refine Kd.R_append (Kd.int .u8) (w0 := w) w.heap.size rfl (.tmp 33) (.tmp 37) 82 5 (.int .u8 0) 1 rfl Try.underlying82 infoU8 rfl (by decide) (by omega) u6 (digs n 1 m) (sh n j % 256) [.int .u8 (sh n j % 256)] (fun _ => True) (fun _ => False) rfl rfl ?aP (fun _ hk => hk.elim) ?aF ?aO ?aB ?aS ?aL ?_; (case aP => exact rfl); (case aB => exact (by repeat (first | (with_reducible first | exact HB.out | apply below_alloc | apply pw_below_drewN | apply below_drew1) | exact HB.out))); (case aF => exact (fun _ _ => trivial)); (case aO => exact (by (with_reducible repeat (first | apply Kd.R_alloc | apply Kd.R_drewN | apply Kd.R_drew)); exact HO.out)); (case aS => exact (below_size (by repeat (first | (with_reducible first | exact HB.out | apply below_alloc | apply pw_below_drewN | apply below_drew1) | exact HB.out)))); (case aL => rw [digs_len]; omega); intro v120 w14 ho hb hg hat; have n0_ := Aside0.mk (hb); have n1_ := Aside0.mk (ho); clear HB; clear HO; have HB := n0_; have HO := n1_; clear n0_ n1_; clear ho hb hg hat))
          go_roundw
          case rel => exact ⟨m + 1, by omega, by go_num, by rw [digs_snoc, show 1 - 1 - m = j from by omega]; exact HO, HB⟩
          case measure => simp [intOf]; omega
    · obtain rfl : m = 1 := by omega
      have s0 := sh_nonneg n (by omega) 0
      obtain ⟨go16, co16, eo16, gb16, gl16, cl16, HG16⟩ := Kd.R_form HO.out (by rw [digs_len]; omega)
      rw [digs_len] at eo16
      subst eo16
      have GB16 := Aside0.mk gb16
      clear gb16 gl16 HG16
      obtain ⟨hx, hf⟩ := Kd.R_celln 0 HO.out (0 : Int) (by omega) (by omega)
      rw [show ((0 : Int)).toNat = 0 from rfl] at hx hf
      have HP := Kd.R_putg HO.out (0 : Int) (IntKind.u64.wrap (IntKind.u64.wrap (rdOf 0 (digs n 1 1) 0)) % 256)
      have hcv := own_string (P := Try.prog) Try.underlying82 Try.underlying5 Try.underlying9 (Kd.own_of_R HP.1)
      rw [show ((0 : Int)).toNat = 0 from rfl] at hcv
      have HR := Aside0.mk (below_set HB.out GB16.out : Below w.heap.size w (wr.setCell ⟨go16, (0 : Int).toNat, none⟩ (.int .u8 (IntKind.u64.wrap (IntKind.u64.wrap (rdOf 0 (digs n 1 1) 0)) % 256))))
      rw [refList0 n h0 h1] at hcv
      clear HP
      go_wp2
      go_ret2
      exact ⟨rfl, HR.out⟩

theorem refList1 (n : Int) (h0 : 64 ≤ n) (h1 : n < 16384) : (digs n 2 2).set 0 (IntKind.u64.wrap (IntKind.u64.wrap (rdOf 0 (digs n 2 2) 0) + 64) % 256) = [64 + (n / 256), n % 256] := by
  have e : digs n 2 2 = [(n / 256) % 256, n % 256] := by simp [digs, sh, List.range_succ]
  rw [e]
  have h : ∀ x : Int, 0 ≤ x → x < 64 → (IntKind.u64.wrap (IntKind.u64.wrap (x % 256) + 64) % 256) = 64 + x := fun x h0 h1 => by
    rw [IntWalk.u64_in (x % 256) ⟨by omega, by omega⟩, IntWalk.u64_in _ ⟨by omega, by omega⟩]; omega
  simp only [rdOf, Int.toNat_zero, List.getD_cons_zero, List.set_cons_zero]
  rw [h _ (by omega) (by omega)]
set_option maxRecDepth 100000 in
set_option maxHeartbeats 800000 in
theorem refPut1 (n : Int) (w : World) (h0 : 64 ≤ n) (h1 : n < 16384) :
    Calls Try.prog 42 #[.int .u64 n] w fun e w' => e = .returned (.tuple #[.string (strOfNums [64 + (n / 256), n % 256]), .int .i64 0]) ∧ Below w.heap.size w w' := by
  have HB := Aside0.mk (Below.refl w.heap.size w)
  have c1 : decide (4611686018427387904 ≤ n) = false := by simp; omega
  have t0 : decide (64 ≤ n) = true := by simp; omega
  have t1 : decide (16384 ≤ n) = false := by simp; omega
  have t2 : decide (1073741824 ≤ n) = false := by simp; omega
  go_enter Try.func42, Try.ntmps42
  go_wp2_with (first | ((with_reducible refine gate_dst (N := 18) rfl ?_); refine Kd.R_lit (Kd.int .u8) _ 5 ?hg (N := 18) ?hd (xs := ([] : List Int)) (inner := []) (ok := fun _ => True) (okp := fun _ => True) ?hr ?hp (fun _ hk => hk) trivial (Below.refl _ _) (Nat.le_refl _) (by simp) ?_; (case hd => rfl); (case hg => rfl); (case hr => first | (go_simp; done) | (go_simp; rfl)); (case hp => exact (Reps.none _ _)); intro v115 w9 ho10 hb hg_ hnew_; clear hg_ hnew_; have n0_ := Aside0.mk (Kd.R_lower ho10 (below_size (by repeat (first | (with_reducible first | exact HB.out | apply below_alloc | apply pw_below_drewN | apply below_drew1) | exact HB.out)))); have n1_ := Aside0.mk (below_step (by repeat (first | (with_reducible first | exact HB.out | apply below_alloc | apply pw_below_drewN | apply below_drew1) | exact HB.out)) hb); clear HB; have HO := n0_; have HB := n1_; clear n0_ n1_; clear hb ho10))
  clear c1 t0 t1 t2
  go_loopw [6, 7] (fun v6 v7 w' => ∃ m : Nat, m ≤ 2 ∧ v7 = .int .i64 (1 - (m : Int)) ∧ Aside0 (Kd.R (Kd.int .u8) 5 w' w.heap.size (fun _ => True) v6 (digs n 2 m)) ∧ Aside0 (Below w.heap.size w w')) (fun _ v7 _ => (intOf v7 + 1).toNat)
  case atStart => exact ⟨0, by omega, rfl, HO, HB⟩
  case round =>
    clear HO HB
    obtain ⟨m, hm, rfl, HO, HB⟩ := hrel
    by_cases hlt : m < 2
    · have c2 : decide (0 ≤ (1 - (m : Int))) = true := by simp; omega
      go_wp2
      obtain ⟨wo, rfl⟩ : ∃ wo : World, wo = wr := ⟨_, rfl⟩
      go_loop [8, 9] (fun v8 v9 => ∃ j : Nat, j + m ≤ 1 ∧ v9 = .int .i64 j ∧ v8 = .int .u64 (sh n j)) (fun _ v9 => 2 - (intOf v9).toNat)
      case atStart => exact ⟨0, by omega, rfl, rfl⟩
      case round =>
        obtain ⟨j, hj, rfl, rfl⟩ := hrel
        have s0 := sh_nonneg n (by omega) j
        have s1 := sh_le n (by omega) j
        by_cases hlj : j + m < 1
        · have c3 : decide ((j : Int) < 1 - (m : Int)) = true := by simp; omega
          go_wp2
          go_round
          case rel => exact ⟨j + 1, by omega, by go_num, rfl⟩
          case measure => simp [intOf]; omega
        · have c3 : decide ((j : Int) < 1 - (m : Int)) = false := decide_eq_false (by omega)
          go_wp2_with (first | ((with_reducible refine gate_builtin (b := .append) (xs := #[.tmp 33, .tmp 37]) rfl ?_); at_builtin; refine Kd.R_append (Kd.int .u8) (w0 := w) w.heap.size rfl (.tmp 33) (.tmp 37) 82 5 (.int .u8 0) 1 rfl Try.underlying82 infoU8 rfl (by decide) (by omega) u6 (digs n 2 m) (sh n j % 256) [.int .u8 (sh n j % 256)] (fun _ => True) (fun _ => False) rfl rfl ?aP (fun _ hk => hk.elim) ?aF ?aO ?aB ?aS ?aL ?_; (case aP => exact rfl); (case aB => exact (by repeat (first | (with_reducible first | exact HB.out | apply below_alloc | apply pw_below_drewN | apply below_drew1) | exact HB.out))); (case aF => exact (fun _ _ => trivial)); (case aO => exact (by (with_reducible repeat (first | apply Kd.R_alloc | apply Kd.R_drewN | apply Kd.R_drew)); exact HO.out)); (case aS => exact (below_size (by repeat (first | (with_reducible first | exact HB.out | apply below_alloc | apply pw_below_drewN | apply below_drew1) | exact HB.out)))); (case aL => rw [digs_len]; omega); intro v120 w14 ho hb hg hat; have n0_ := Aside0.mk (hb); have n1_ := Aside0.mk (ho); clear HB; clear HO; have HB := n0_; have HO := n1_; clear n0_ n1_; clear ho hb hg hat))
          go_roundw
          case rel => exact ⟨m + 1, by omega, by go_num, by rw [digs_snoc, show 2 - 1 - m = j from by omega]; exact HO, HB⟩
          case measure => simp [intOf]; omega
    · obtain rfl : m = 2 := by omega
      have s0 := sh_nonneg n (by omega) 1
      obtain ⟨go16, co16, eo16, gb16, gl16, cl16, HG16⟩ := Kd.R_form HO.out (by rw [digs_len]; omega)
      rw [digs_len] at eo16
      subst eo16
      have GB16 := Aside0.mk gb16
      clear gb16 gl16 HG16
      obtain ⟨hx, hf⟩ := Kd.R_celln 0 HO.out (0 : Int) (by omega) (by omega)
      rw [show ((0 : Int)).toNat = 0 from rfl] at hx hf
      have HP := Kd.R_putg HO.out (0 : Int) (IntKind.u64.wrap (IntKind.u64.wrap (rdOf 0 (digs n 2 2) 0) + 64) % 256)
      have hcv := own_string (P := Try.prog) Try.underlying82 Try.underlying5 Try.underlying9 (Kd.own_of_R HP.1)
      rw [show ((0 : Int)).toNat = 0 from rfl] at hcv
      have HR := Aside0.mk (below_set HB.out GB16.out : Below w.heap.size w (wr.setCell ⟨go16, (0 : Int).toNat, none⟩ (.int .u8 (IntKind.u64.wrap (IntKind.u64.wrap (rdOf 0 (digs n 2 2) 0) + 64) % 256))))
      rw [refList1 n h0 h1] at hcv
      clear HP
      go_wp2
      go_ret2
      exact ⟨rfl, HR.out⟩

theorem refList2 (n : Int) (h0 : 16384 ≤ n) (h1 : n < 1073741824) : (digs n 4 4).set 0 (IntKind.u64.wrap (IntKind.u64.wrap (rdOf 0 (digs n 4 4) 0) + 128) % 256) = [128 + (((n / 256) / 256) / 256), ((n / 256) / 256) % 256, (n / 256) % 256, n % 256] := by
  have e : digs n 4 4 = [(((n / 256) / 256) / 256) % 256, ((n / 256) / 256) % 256, (n / 256) % 256, n % 256] := by simp [digs, sh, List.range_succ]
  rw [e]
  have h : ∀ x : Int, 0 ≤ x → x < 64 → (IntKind.u64.wrap (IntKind.u64.wrap (x % 256) + 128) % 256) = 128 + x := fun x h0 h1 => by
    rw [IntWalk.u64_in (x % 256) ⟨by omega, by omega⟩, IntWalk.u64_in _ ⟨by omega, by omega⟩]; omega
  simp only [rdOf, Int.toNat_zero, List.getD_cons_zero, List.set_cons_zero]
  rw [h _ (by omega) (by omega)]
set_option maxRecDepth 100000 in
set_option maxHeartbeats 800000 in
theorem refPut2 (n : Int) (w : World) (h0 : 16384 ≤ n) (h1 : n < 1073741824) :
    Calls Try.prog 42 #[.int .u64 n] w fun e w' => e = .returned (.tuple #[.string (strOfNums [128 + (((n / 256) / 256) / 256), ((n / 256) / 256) % 256, (n / 256) % 256, n % 256]), .int .i64 0]) ∧ Below w.heap.size w w' := by
  have HB := Aside0.mk (Below.refl w.heap.size w)
  have c1 : decide (4611686018427387904 ≤ n) = false := by simp; omega
  have t0 : decide (64 ≤ n) = true := by simp; omega
  have t1 : decide (16384 ≤ n) = true := by simp; omega
  have t2 : decide (1073741824 ≤ n) = false := by simp; omega
  go_enter Try.func42, Try.ntmps42
  go_wp2_with (first | ((with_reducible refine gate_dst (N := 18) rfl ?_); refine Kd.R_lit (Kd.int .u8) _ 5 ?hg (N := 18) ?hd (xs := ([] : List Int)) (inner := []) (ok := fun _ => True) (okp := fun _ => True) ?hr ?hp (fun _ hk => hk) trivial (Below.refl _ _) (Nat.le_refl _) (by simp) ?_; (case hd => rfl); (case hg => rfl); (case hr => first | (go_simp; done) | (go_simp; rfl)); (case hp => exact (Reps.none _ _)); intro v115 w9 ho10 hb hg_ hnew_; clear hg_ hnew_; have n0_ := Aside0.mk (Kd.R_lower ho10 (below_size (by repeat (first | (with_reducible first | exact HB.out | apply below_alloc | apply pw_below_drewN | apply below_drew1) | exact HB.out)))); have n1_ := Aside0.mk (below_step (by repeat (first | (with_reducible first | exact HB.out | apply below_alloc | apply pw_below_drewN | apply below_drew1) | exact HB.out)) hb); clear HB; have HO := n0_; have HB := n1_; clear n0_ n1_; clear hb ho10))
  clear c1 t0 t1 t2
  go_loopw [6, 7] (fun v6 v7 w' => ∃ m : Nat, m ≤ 4 ∧ v7 = .int .i64 (3 - (m : Int)) ∧ Aside0 (Kd.R (Kd.int .u8) 5 w' w.heap.size (fun _ => True) v6 (digs n 4 m)) ∧ Aside0 (Below w.heap.size w w')) (fun _ v7 _ => (intOf v7 + 1).toNat)
  case atStart => exact ⟨0, by omega, rfl, HO, HB⟩
  case round =>
    clear HO HB
    obtain ⟨m, hm, rfl, HO, HB⟩ := hrel
    by_cases hlt : m < 4
    · have c2 : decide (0 ≤ (3 - (m : Int))) = true := by simp; omega
      go_wp2
      obtain ⟨wo, rfl⟩ : ∃ wo : World, wo = wr := ⟨_, rfl⟩
      go_loop [8, 9] (fun v8 v9 => ∃ j : Nat, j + m ≤ 3 ∧ v9 = .int .i64 j ∧ v8 = .int .u64 (sh n j)) (fun _ v9 => 4 - (intOf v9).toNat)
      case atStart => exact ⟨0, by omega, rfl, rfl⟩
      case round =>
        obtain ⟨j, hj, rfl, rfl⟩ := hrel
        have s0 := sh_nonneg n (by omega) j
        have s1 := sh_le n (by omega) j
        by_cases hlj : j + m < 3
        · have c3 : decide ((j : Int) < 3 - (m : Int)) = true := by simp; omega
          go_wp2
          go_round
          case rel => exact ⟨j + 1, by omega, by go_num, rfl⟩
          case measure => simp [intOf]; omega
        · have c3 : decide ((j : Int) < 3 - (m : Int)) = false := decide_eq_false (by omega)
          go_wp2_with (first | ((with_reducible refine gate_builtin (b := .append) (xs := #[.tmp 33, .tmp 37]) rfl ?_); at_builtin; refine Kd.R_append (Kd.int .u8) (w0 := w) w.heap.size rfl (.tmp 33) (.tmp 37) 82 5 (.int .u8 0) 1 rfl Try.underlying82 infoU8 rfl (by decide) (by omega) u6 (digs n 4 m) (sh n j % 256) [.int .u8 (sh n j % 256)] (fun _ => True) (fun _ => False) rfl rfl ?aP (fun _ hk => hk.elim) ?aF ?aO ?aB ?aS ?aL ?_; (case aP => exact rfl); (case aB => exact (by repeat (first | (with_reducible first | exact HB.out | apply below_alloc | apply pw_below_drewN | apply below_drew1) | exact HB.out))); (case aF => exact (fun _ _ => trivial)); (case aO => exact (by (with_reducible repeat (first | apply Kd.R_alloc | apply Kd.R_drewN | apply Kd.R_drew)); exact HO.out)); (case aS => exact (below_size (by repeat (first | (with_reducible first | exact HB.out | apply below_alloc | apply pw_below_drewN | apply below_drew1) | exact HB.out)))); (case aL => rw [digs_len]; omega); intro v120 w14 ho hb hg hat; have n0_ := Aside0.mk (hb); have n1_ := Aside0.mk (ho); clear HB; clear HO; have HB := n0_; have HO := n1_; clear n0_ n1_; clear ho hb hg hat))
          go_roundw
          case rel => exact ⟨m + 1, by omega, by go_num, by rw [digs_snoc, show 4 - 1 - m = j from by omega]; exact HO, HB⟩
          case measure => simp [intOf]; omega
    · obtain rfl : m = 4 := by omega
      have s0 := sh_nonneg n (by omega) 3
      obtain ⟨go16, co16, eo16, gb16, gl16, cl16, HG16⟩ := Kd.R_form HO.out (by rw [digs_len]; omega)
      rw [digs_len] at eo16
      subst eo16
      have GB16 := Aside0.mk gb16
      clear gb16 gl16 HG16
      obtain ⟨hx, hf⟩ := Kd.R_celln 0 HO.out (0 : Int) (by omega) (by omega)
      rw [show ((0 : Int)).toNat = 0 from rfl] at hx hf
      have HP := Kd.R_putg HO.out (0 : Int) (IntKind.u64.wrap (IntKind.u64.wrap (rdOf 0 (digs n 4 4) 0) + 128) % 256)
      have hcv := own_string (P := Try.prog) Try.underlying82 Try.underlying5 Try.underlying9 (Kd.own_of_R HP.1)
      rw [show ((0 : Int)).toNat = 0 from rfl] at hcv
      have HR := Aside0.mk (below_set HB.out GB16.out : Below w.heap.size w (wr.setCell ⟨go16, (0 : Int).toNat, none⟩ (.int .u8 (IntKind.u64.wrap (IntKind.u64.wrap (rdOf 0 (digs n 4 4) 0) + 128) % 256))))
      rw [refList2 n h0 h1] at hcv
      clear HP
      go_wp2
      go_ret2
      exact ⟨rfl, HR.out⟩

theorem refList3 (n : Int) (h0 : 1073741824 ≤ n) (h1 : n < 4611686018427387904) : (digs n 8 8).set 0 (IntKind.u64.wrap (IntKind.u64.wrap (rdOf 0 (digs n 8 8) 0) + 192) % 256) = [192 + (((((((n / 256) / 256) / 256) / 256) / 256) / 256) / 256), ((((((n / 256) / 256) / 256) / 256) / 256) / 256) % 256, (((((n / 256) / 256) / 256) / 256) / 256) % 256, ((((n / 256) / 256) / 256) / 256) % 256, (((n / 256) / 256) / 256) % 256, ((n / 256) / 256) % 256, (n / 256) % 256, n % 256] := by
  have e : digs n 8 8 = [(((((((n / 256) / 256) / 256) / 256) / 256) / 256) / 256) % 256, ((((((n / 256) / 256) / 256) / 256) / 256) / 256) % 256, (((((n / 256) / 256) / 256) / 256) / 256) % 256, ((((n / 256) / 256) / 256) / 256) % 256, (((n / 256) / 256) / 256) % 256, ((n / 256) / 256) % 256, (n / 256) % 256, n % 256] := by simp [digs, sh, List.range_succ]
  rw [e]
  have h : ∀ x : Int, 0 ≤ x → x < 64 → (IntKind.u64.wrap (IntKind.u64.wrap (x % 256) + 192) % 256) = 192 + x := fun x h0 h1 => by
    rw [IntWalk.u64_in (x % 256) ⟨by omega, by omega⟩, IntWalk.u64_in _ ⟨by omega, by omega⟩]; omega
  simp only [rdOf, Int.toNat_zero, List.getD_cons_zero, List.set_cons_zero]
  rw [h _ (by omega) (by omega)]
set_option maxRecDepth 100000 in
set_option maxHeartbeats 800000 in
theorem refPut3 (n : Int) (w : World) (h0 : 1073741824 ≤ n) (h1 : n < 4611686018427387904) :
    Calls Try.prog 42 #[.int .u64 n] w fun e w' => e = .returned (.tuple #[.string (strOfNums [192 + (((((((n / 256) / 256) / 256) / 256) / 256) / 256) / 256), ((((((n / 256) / 256) / 256) / 256) / 256) / 256) % 256, (((((n / 256) / 256) / 256) / 256) / 256) % 256, ((((n / 256) / 256) / 256) / 256) % 256, (((n / 256) / 256) / 256) % 256, ((n / 256) / 256) % 256, (n / 256) % 256, n % 256]), .int .i64 0]) ∧ Below w.heap.size w w' := by
  have HB := Aside0.mk (Below.refl w.heap.size w)
  have c1 : decide (4611686018427387904 ≤ n) = false := by simp; omega
  have t0 : decide (64 ≤ n) = true := by simp; omega
  have t1 : decide (16384 ≤ n) = true := by simp; omega
  have t2 : decide (1073741824 ≤ n) = true := by simp; omega
  go_enter Try.func42, Try.ntmps42
  go_wp2_with (first | ((with_reducible refine gate_dst (N := 18) rfl ?_); refine Kd.R_lit (Kd.int .u8) _ 5 ?hg (N := 18) ?hd (xs := ([] : List Int)) (inner := []) (ok := fun _ => True) (okp := fun _ => True) ?hr ?hp (fun _ hk => hk) trivial (Below.refl _ _) (Nat.le_refl _) (by simp) ?_; (case hd => rfl); (case hg => rfl); (case hr => first | (go_simp; done) | (go_simp; rfl)); (case hp => exact (Reps.none _ _)); intro v115 w9 ho10 hb hg_ hnew_; clear hg_ hnew_; have n0_ := Aside0.mk (Kd.R_lower ho10 (below_size (by repeat (first | (with_reducible first | exact HB.out | apply below_alloc | apply pw_below_drewN | apply below_drew1) | exact HB.out)))); have n1_ := Aside0.mk (below_step (by repeat (first | (with_reducible first | exact HB.out | apply below_alloc | apply pw_below_drewN | apply below_drew1) | exact HB.out)) hb); clear HB; have HO := n0_; have HB := n1_; clear n0_ n1_; clear hb ho10))
  clear c1 t0 t1 t2
  go_loopw [6, 7] (fun v6 v7 w' => ∃ m : Nat, m ≤ 8 ∧ v7 = .int .i64 (7 - (m : Int)) ∧ Aside0 (Kd.R (Kd.int .u8) 5 w' w.heap.size (fun _ => True) v6 (digs n 8 m)) ∧ Aside0 (Below w.heap.size w w')) (fun _ v7 _ => (intOf v7 + 1).toNat)
  case atStart => exact ⟨0, by omega, rfl, HO, HB⟩
  case round =>
    clear HO HB
    obtain ⟨m, hm, rfl, HO, HB⟩ := hrel
    by_cases hlt : m < 8
    · have c2 : decide (0 ≤ (7 - (m : Int))) = true := by simp; omega
      go_wp2
      obtain ⟨wo, rfl⟩ : ∃ wo : World, wo = wr := ⟨_, rfl⟩
      go_loop [8, 9] (fun v8 v9 => ∃ j : Nat, j + m ≤ 7 ∧ v9 = .int .i64 j ∧ v8 = .int .u64 (sh n j)) (fun _ v9 => 8 - (intOf v9).toNat)
      case atStart => exact ⟨0, by omega, rfl, rfl⟩
      case round =>
        obtain ⟨j, hj, rfl, rfl⟩ := hrel
        have s0 := sh_nonneg n (by omega) j
        have s1 := sh_le n (by omega) j
        by_cases hlj : j + m < 7
        · have c3 : decide ((j : Int) < 7 - (m : Int)) = true := by simp; omega
          go_wp2
          go_round
          case rel => exact ⟨j + 1, by omega, by go_num, rfl⟩
          case measure => simp [intOf]; omega
        · have c3 : decide ((j : Int) < 7 - (m : Int)) = false := decide_eq_false (by omega)
          go_wp2_with (first | ((with_reducible refine gate_builtin (b := .append) (xs := #[.tmp 33, .tmp 37]) rfl ?_); at_builtin; refine Kd.R_append (Kd.int .u8) (w0 := w) w.heap.size rfl (.tmp 33) (.tmp 37) 82 5 (.int .u8 0) 1 rfl Try.underlying82 infoU8 rfl (by decide) (by omega) u6 (digs n 8 m) (sh n j % 256) [.int .u8 (sh n j % 256)] (fun _ => True) (fun _ => False) rfl rfl ?aP (fun _ hk => hk.elim) ?aF ?aO ?aB ?aS ?aL ?_; (case aP => exact rfl); (case aB => exact (by repeat (first | (with_reducible first | exact HB.out | apply below_alloc | apply pw_below_drewN | apply below_drew1) | exact HB.out))); (case aF => exact (fun _ _ => trivial)); (case aO => exact (by (with_reducible repeat (first | apply Kd.R_alloc | apply Kd.R_drewN | apply Kd.R_drew)); exact HO.out)); (case aS => exact (below_size (by repeat (first | (with_reducible first | exact HB.out | apply below_alloc | apply pw_below_drewN | apply below_drew1) | exact HB.out)))); (case aL => rw [digs_len]; omega); intro v120 w14 ho hb hg hat; have n0_ := Aside0.mk (hb); have n1_ := Aside0.mk (ho); clear HB; clear HO; have HB := n0_; have HO := n1_; clear n0_ n1_; clear ho hb hg hat))
          go_roundw
          case rel => exact ⟨m + 1, by omega, by go_num, by rw [digs_snoc, show 8 - 1 - m = j from by omega]; exact HO, HB⟩
          case measure => simp [intOf]; omega
    · obtain rfl : m = 8 := by omega
      have s0 := sh_nonneg n (by omega) 7
      obtain ⟨go16, co16, eo16, gb16, gl16, cl16, HG16⟩ := Kd.R_form HO.out (by rw [digs_len]; omega)
      rw [digs_len] at eo16
      subst eo16
      have GB16 := Aside0.mk gb16
      clear gb16 gl16 HG16
      obtain ⟨hx, hf⟩ := Kd.R_celln 0 HO.out (0 : Int) (by omega) (by omega)
      rw [show ((0 : Int)).toNat = 0 from rfl] at hx hf
      have HP := Kd.R_putg HO.out (0 : Int) (IntKind.u64.wrap (IntKind.u64.wrap (rdOf 0 (digs n 8 8) 0) + 192) % 256)
      have hcv := own_string (P := Try.prog) Try.underlying82 Try.underlying5 Try.underlying9 (Kd.own_of_R HP.1)
      rw [show ((0 : Int)).toNat = 0 from rfl] at hcv
      have HR := Aside0.mk (below_set HB.out GB16.out : Below w.heap.size w (wr.setCell ⟨go16, (0 : Int).toNat, none⟩ (.int .u8 (IntKind.u64.wrap (IntKind.u64.wrap (rdOf 0 (digs n 8 8) 0) + 192) % 256))))
      rw [refList3 n h0 h1] at hcv
      clear HP
      go_wp2
      go_ret2
      exact ⟨rfl, HR.out⟩

end Go.Proofs.Ytlohnhjfdmldnaa.Num

/- Are records greater than is gone through: the walk (own text; printed by wip/tools/gen_recgreat.py, a program of this session). -/
import Derived.Test.YtlohnhjfdmldnaaRecPlain
import Derived.Test.YtlohnhjfdmldnaaSets
import Derived.Deep.Cut
namespace Go.Proofs.Ytlohnhjfdmldnaa.Rec
open Go.RowKit Go.Proofs.Ytlohnhjfdmldnaa.Mem
set_option linter.unusedVariables false
set_option linter.unusedSimpArgs false
/-- Is a record greater than is gone through? -/
def gr (k b : ByteArray) : Bool := decide (5000 < k.size ∨ 5000 < b.size)
def anyN (g : Nat → Bool) : Nat → Bool
  | 0 => false
  | n + 1 => anyN g n || g n
theorem anyN_no (g : Nat → Bool) : ∀ n, (∀ i, i < n → g i = false) → anyN g n = false
  | 0, _ => rfl
  | n + 1, h => by unfold anyN; rw [anyN_no g n (fun i hi => h i (by omega)), h n (by omega)]; rfl
theorem anyN_yes (g : Nat → Bool) (k : Nat) (h : g k = true) : ∀ n, k < n → anyN g n = true
  | 0, hk => by omega
  | n + 1, hk => by
    unfold anyN
    by_cases e : k = n
    · rw [← e, h, Bool.or_true]
    · rw [anyN_yes g k h n (by omega), Bool.true_or]
set_option maxRecDepth 100000 in
set_option maxHeartbeats 1600000 in
theorem great_any (n b : Nat) (rk : Nat → ByteArray) (rp rl rn rd rf rx : Nat → Int) (rb : Nat → ByteArray) (w : World) (hn : n ≤ 1000000) (hb : b < w.heap.size) (hc : ∀ i, i < n → w.cell? ⟨b, i * 8, none⟩ = some (.string (rk i)) ∧ w.cell? ⟨b, i * 8 + 1, none⟩ = some (.int .u64 (rp i)) ∧ w.cell? ⟨b, i * 8 + 2, none⟩ = some (.int .u32 (rl i)) ∧ w.cell? ⟨b, i * 8 + 3, none⟩ = some (.int .u8 (rn i)) ∧ w.cell? ⟨b, i * 8 + 4, none⟩ = some (.int .u8 (rd i)) ∧ w.cell? ⟨b, i * 8 + 5, none⟩ = some (.int .u32 (rf i)) ∧ w.cell? ⟨b, i * 8 + 6, none⟩ = some (.int .u64 (rx i)) ∧ w.cell? ⟨b, i * 8 + 7, none⟩ = some (.string (rb i))) :
    Calls Try.prog 10 #[.slice (some ⟨b, 0, none⟩) n n] w fun e w' => e = .returned (.bool (anyN (fun i => gr (rk i) (rb i)) n)) ∧ Below w.heap.size w w' := by
  have HC := Lib.hid hc
  have HY := Lib.hid (fun k (h : gr (rk k) (rb k) = true) (hk : k < n) => anyN_yes (fun i => gr (rk i) (rb i)) k h n hk)
  have HN := Lib.hid (anyN_no (fun i => gr (rk i) (rb i)) n)
  generalize anyN (fun i => gr (rk i) (rb i)) n = res at *
  clear hc
  go_enter Try.func10, Try.ntmps10
  go_wp2_with (fail)
  go_loopw [7] (fun i w' => ∃ k : Nat, k ≤ n ∧ i = .int .i64 k ∧ Hid (∀ i, i < k → gr (rk i) (rb i) = false) ∧ Hid (Below w.heap.size w w')) (fun i _ => n - (intOf i).toNat)
  case atStart => exact ⟨0, by omega, rfl, Lib.hid (fun i hi => by omega), Lib.hid (Below.refl _ _)⟩
  case round =>
    obtain ⟨k, hk, rfl, HZ, HB⟩ := hrel
    by_cases hlt : k < n
    · have hcell := fun j => HB.out.cell (p := ⟨b, j, none⟩) hb
      obtain ⟨e0, e1, e2, e3, e4, e5, e6, e7⟩ := HC.out k hlt
      rw [← hcell] at e0 e1 e2 e3 e4 e5 e6 e7
      have hbw : b < wr.heap.size := Nat.lt_of_lt_of_le hb HB.out.size
      clear hcell
      go_upto_region 4 with (fail)
      have HS := Lib.hid (at_new wr #[.string (rk k), .int .u64 (rp k), .int .u32 (rl k), .int .u8 (rn k), .int .u8 (rd k), .int .u32 (rf k), .int .u64 (rx k), .string (rb k)] 27)
      replace HB := Lib.hid (below_al (o := .cells #[.string (rk k), .int .u64 (rp k), .int .u32 (rl k), .int .u8 (rn k), .int .u8 (rd k), .int .u32 (rf k), .int .u64 (rx k), .string (rb k)] 27) HB.out)
      clear e0 e1 e2 e3 e4 e5 e6 e7
      generalize wr.alloc (.cells #[.string (rk k), .int .u64 (rp k), .int .u32 (rl k), .int .u8 (rn k), .int .u8 (rd k), .int .u32 (rf k), .int .u64 (rx k), .string (rb k)] 27) = w2 at *
      generalize wr.heap.size = y at *
      obtain ⟨x0, x1, x2, x3, x4, x5, x6, x7, -⟩ := at8 HS.out
      have hres := Lib.hid (HY.out k)
      have hgr : gr (rk k) (rb k) = decide (5000 < (rk k).size ∨ 5000 < (rb k).size) := rfl
      by_cases h1 : 5000 < (rk k).size
      · have hr : res = true := hres.out (by rw [hgr]; exact decide_eq_true (Or.inl h1)) hlt
        have c1 : decide ((5000 : Int) < ((rk k).size : Int)) = true := decide_eq_true (by omega)
        clear hgr hres
        go_wp2_with (fail)
        go_ret
        exact ⟨by rw [hr]; rfl, HB.out⟩
      · have c1 : decide ((5000 : Int) < ((rk k).size : Int)) = false := decide_eq_false (by omega)
        by_cases h2 : 5000 < (rb k).size
        · have hr : res = true := hres.out (by rw [hgr]; exact decide_eq_true (Or.inr h2)) hlt
          have c2 : decide ((5000 : Int) < ((rb k).size : Int)) = true := decide_eq_true (by omega)
          clear hgr hres
          go_wp2_with (fail)
          go_ret
          exact ⟨by rw [hr]; rfl, HB.out⟩
        · have c2 : decide ((5000 : Int) < ((rb k).size : Int)) = false := decide_eq_false (by omega)
          have HZ2 := Lib.hid (show ∀ i, i < k + 1 → gr (rk i) (rb i) = false from fun i hi => by
            by_cases e : i = k
            · rw [e, hgr]; exact decide_eq_false (by omega)
            · exact HZ.out i (by omega))
          clear hgr hres
          go_wp2_with (fail)
          exact ⟨⟨k + 1, by omega, by go_num, HZ2, HB⟩, by simp [intOf]; omega⟩
    · obtain rfl : k = n := by omega
      have hr : res = false := HN.out HZ.out
      go_wp2_with (fail)
      go_ret
      exact ⟨by rw [hr]; rfl, HB.out⟩
theorem great1 (ak : ByteArray) (ap al an ad af ax : Int) (ab : ByteArray) (b : Nat) (t : TypeId) (w : World) (h : At w b #[.string ak, .int .u64 ap, .int .u32 al, .int .u8 an, .int .u8 ad, .int .u32 af, .int .u64 ax, .string ab] t) :
    Calls Try.prog 10 #[.slice (some ⟨b, 0, none⟩) 1 1] w fun e w' => e = .returned (.bool (gr ak ab)) ∧ Below w.heap.size w w' := by
  have g := great_any 1 b (fun i => match i with | _ => ak) (fun i => match i with | _ => ap) (fun i => match i with | _ => al) (fun i => match i with | _ => an) (fun i => match i with | _ => ad) (fun i => match i with | _ => af) (fun i => match i with | _ => ax) (fun i => match i with | _ => ab) w (by decide) h.lt (fun i hi => by
    match i, hi with
    | 0, _ => exact ⟨h.cell 0, h.cell 1, h.cell 2, h.cell 3, h.cell 4, h.cell 5, h.cell 6, h.cell 7⟩)
  simp only [anyN, Bool.false_or] at g
  exact g
theorem great2 (ak : ByteArray) (ap al an ad af ax : Int) (ab : ByteArray) (ck : ByteArray) (cp cl cn cd cf cx : Int) (cb : ByteArray) (b : Nat) (t : TypeId) (w : World) (h : At w b #[.string ak, .int .u64 ap, .int .u32 al, .int .u8 an, .int .u8 ad, .int .u32 af, .int .u64 ax, .string ab, .string ck, .int .u64 cp, .int .u32 cl, .int .u8 cn, .int .u8 cd, .int .u32 cf, .int .u64 cx, .string cb] t) :
    Calls Try.prog 10 #[.slice (some ⟨b, 0, none⟩) 2 2] w fun e w' => e = .returned (.bool (gr ak ab || gr ck cb)) ∧ Below w.heap.size w w' := by
  have g := great_any 2 b (fun i => match i with | 0 => ak | _ => ck) (fun i => match i with | 0 => ap | _ => cp) (fun i => match i with | 0 => al | _ => cl) (fun i => match i with | 0 => an | _ => cn) (fun i => match i with | 0 => ad | _ => cd) (fun i => match i with | 0 => af | _ => cf) (fun i => match i with | 0 => ax | _ => cx) (fun i => match i with | 0 => ab | _ => cb) w (by decide) h.lt (fun i hi => by
    match i, hi with
    | 0, _ => exact ⟨h.cell 0, h.cell 1, h.cell 2, h.cell 3, h.cell 4, h.cell 5, h.cell 6, h.cell 7⟩
    | 1, _ => exact ⟨h.cell 8, h.cell 9, h.cell 10, h.cell 11, h.cell 12, h.cell 13, h.cell 14, h.cell 15⟩)
  simp only [anyN, Bool.false_or] at g
  exact g
theorem great3 (ak : ByteArray) (ap al an ad af ax : Int) (ab : ByteArray) (ck : ByteArray) (cp cl cn cd cf cx : Int) (cb : ByteArray) (zk : ByteArray) (zp zl zn zd zf zx : Int) (zb : ByteArray) (b : Nat) (t : TypeId) (w : World) (h : At w b #[.string ak, .int .u64 ap, .int .u32 al, .int .u8 an, .int .u8 ad, .int .u32 af, .int .u64 ax, .string ab, .string ck, .int .u64 cp, .int .u32 cl, .int .u8 cn, .int .u8 cd, .int .u32 cf, .int .u64 cx, .string cb, .string zk, .int .u64 zp, .int .u32 zl, .int .u8 zn, .int .u8 zd, .int .u32 zf, .int .u64 zx, .string zb] t) :
    Calls Try.prog 10 #[.slice (some ⟨b, 0, none⟩) 3 3] w fun e w' => e = .returned (.bool (gr ak ab || gr ck cb || gr zk zb)) ∧ Below w.heap.size w w' := by
  have g := great_any 3 b (fun i => match i with | 0 => ak | 1 => ck | _ => zk) (fun i => match i with | 0 => ap | 1 => cp | _ => zp) (fun i => match i with | 0 => al | 1 => cl | _ => zl) (fun i => match i with | 0 => an | 1 => cn | _ => zn) (fun i => match i with | 0 => ad | 1 => cd | _ => zd) (fun i => match i with | 0 => af | 1 => cf | _ => zf) (fun i => match i with | 0 => ax | 1 => cx | _ => zx) (fun i => match i with | 0 => ab | 1 => cb | _ => zb) w (by decide) h.lt (fun i hi => by
    match i, hi with
    | 0, _ => exact ⟨h.cell 0, h.cell 1, h.cell 2, h.cell 3, h.cell 4, h.cell 5, h.cell 6, h.cell 7⟩
    | 1, _ => exact ⟨h.cell 8, h.cell 9, h.cell 10, h.cell 11, h.cell 12, h.cell 13, h.cell 14, h.cell 15⟩
    | 2, _ => exact ⟨h.cell 16, h.cell 17, h.cell 18, h.cell 19, h.cell 20, h.cell 21, h.cell 22, h.cell 23⟩)
  simp only [anyN, Bool.false_or] at g
  exact g
end Go.Proofs.Ytlohnhjfdmldnaa.Rec

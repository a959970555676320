/- fill lays the table: the walk (own text). -/
import Derived.Test.YtkddaedjgbakkaaSumRef
import Derived.Test.YtkddaedjgbakkaaOnce
namespace Go.Proofs.Ytkddaedjgbakkaa.Sum
open Go.RowKit Go.Proofs.Ytkddaedjgbakkaa.Mem
set_option linter.unusedVariables false
set_option linter.unusedSimpArgs false
/-- The block of a table: the Once's word d, the lock's s, the entries f. -/
structure Tb (w : World) (b : Nat) (d s : Int) (f : Nat → Nat) : Prop where
  c0 : w.cell? ⟨b, 0, none⟩ = some (.int .u32 d)
  c1 : w.cell? ⟨b, 1, none⟩ = some (.int .i32 s)
  cE : ∀ i, i < 256 → w.cell? ⟨b, 3 + i, none⟩ = some (.int .u32 (f i))
  z : ∀ i, i < 259 → w.frozen? ⟨b, i, none⟩ = false
theorem tb_set {w : World} {b k : Nat} {d s : Int} {f : Nat → Nat} {v : Nat} (h : Tb w b d s f) (hk : k < 256) : Tb (w.setCell ⟨b, 3 + k, none⟩ (.int .u32 v)) b d s (fun i => if i = k then v else f i) := by
  refine ⟨?_, ?_, fun i hi => ?_, fun i hi => ?_⟩
  · exact (World.cell?_setCell_other w ⟨b, 3 + k, none⟩ ⟨b, 0, none⟩ _ (by simp)).trans h.c0
  · exact (World.cell?_setCell_other w ⟨b, 3 + k, none⟩ ⟨b, 1, none⟩ _ (by first | (simp; done) | (simp; omega))).trans h.c1
  · by_cases e : i = k
    · subst e
      simp only [if_true]
      exact World.cell?_setCell_same w _ _ (h.cE i hi)
    · simp only [if_neg e]
      exact (World.cell?_setCell_other w ⟨b, 3 + k, none⟩ ⟨b, 3 + i, none⟩ _ (by first | (simp; done) | (simp; omega))).trans (h.cE i hi)
  · rw [World.frozen?_setCell]; exact h.z i hi
theorem tb_fun {w : World} {b : Nat} {d s : Int} {f g : Nat → Nat} (h : Tb w b d s f) (e : ∀ i, i < 256 → f i = g i) : Tb w b d s g :=
  ⟨h.c0, h.c1, fun i hi => by rw [← e i hi]; exact h.cE i hi, h.z⟩
set_option maxRecDepth 100000 in
set_option maxHeartbeats 800000 in
theorem fill_any (b : Nat) (d s : Int) (w : World) (h : Tb w b d s (fun _ => 0)) :
    Calls Try.prog 22 #[.pointer (some ⟨b, 0, none⟩)] w fun e w' => e = .returned (.tuple #[]) ∧ Tb w' b d s (fun i => if i < 256 then ei i else 0) ∧ Chg (fun x => x = b) w w' := by
  have HT := Lib.hid (show Tb w b d s (fun i => if i < 0 then ei i else 0) from ⟨h.c0, h.c1, fun i hi => by simpa using h.cE i hi, h.z⟩)
  clear h
  go_enter Try.func22, Try.ntmps22
  go_wp2_with (fail)
  go_loopw [5] (fun v w' => ∃ k : Nat, k ≤ 256 ∧ v = .int .i64 k ∧ Hid (Tb w' b d s (fun i => if i < k then ei i else 0)) ∧ Hid (Chg (fun x => x = b) w w')) (fun v _ => 256 - (intOf v).toNat)
  case atStart => exact ⟨0, by omega, rfl, HT, Lib.hid (chg_refl _ _)⟩
  case round =>
    clear HT
    obtain ⟨k, hk, rfl, HT, HC⟩ := hrel
    by_cases hlt : k < 256
    · have hw : IntKind.u32.wrap (k : Int) = k := u8_u32 k hlt
      go_wp2_with (fail)
      go_loopw [3, 10] (fun v0 v3 w' => ∃ j : Nat, j ≤ 8 ∧ v0 = .int .u32 (it j k : Nat) ∧ v3 = .int .i64 j ∧ w' = wr) (fun _ v _ => 8 - (intOf v).toNat)
      case atStart => exact ⟨0, by omega, rfl, rfl, rfl⟩
      case round =>
        obtain ⟨j, hj, rfl, rfl, rfl⟩ := hrel
        have hy : it j k < 4294967296 := it_lt (by omega) j
        have hs : it (j + 1) k = st (it j k) := rfl
        have h8 : j = 8 → it j k = ei k := fun h => by rw [h]; rfl
        generalize it j k = y at *
        have q1 : bits .and .u32 (y : Int) 1 = ((y % 2 : Nat) : Int) := by
          have := u32_and_nat y 1 hy (by decide)
          rw [nat_mask1] at this
          exact this
        by_cases hlt2 : j < 8
        · by_cases ho : y % 2 = 1
          · rw [ho] at q1
            have q3 : bits .xor .u32 ((y : Int) / 2) 3988292384 = ((y / 2 ^^^ 3988292384 : Nat) : Int) := by
              rw [show (y : Int) / 2 = ((y / 2 : Nat) : Int) by omega]; exact u32_xor_nat (y / 2) 3988292384 (by omega) (by decide)
            have hs' : it (j + 1) k = y / 2 ^^^ 3988292384 := by rw [hs]; unfold st; rw [if_pos ho]
            go_wp2_with (fail)
            exact ⟨⟨j + 1, by omega, by rw [hs'], by go_num, trivial⟩, by simp [intOf]; omega⟩
          · rw [show y % 2 = 0 by omega] at q1
            have hs' : ((it (j + 1) k : Nat) : Int) = (y : Int) / 2 := by rw [hs]; unfold st; rw [if_neg ho]; omega
            go_wp2_with (fail)
            exact ⟨⟨j + 1, by omega, by rw [hs'], by go_num, trivial⟩, by simp [intOf]; omega⟩
        · obtain rfl : j = 8 := by omega
          rw [h8 rfl]
          have e0 := HT.out.cE k hlt
          have e1 := HT.out.z (3 + k) (by omega)
          go_wp2_with (fail)
          refine ⟨⟨k + 1, by omega, by go_num, Lib.hid (tb_fun (tb_set HT.out hlt) fun i hi => ?_), Lib.hid (chg_set HC.out rfl)⟩, by simp [intOf]; omega⟩
          by_cases e : i = k
          · subst e; simp
          · simp only [if_neg e]
            by_cases e2 : i < k
            · rw [if_pos e2, if_pos (by omega)]
            · rw [if_neg e2, if_neg (by omega)]
    · obtain rfl : k = 256 := by omega
      go_wp2_with (fail)
      go_end0
      exact ⟨rfl, HT.out, HC.out⟩
end Go.Proofs.Ytkddaedjgbakkaa.Sum

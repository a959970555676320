/- Do fills a table once (own text, after the guide's worked example of a lazy value). -/
import Derived.Test.YtkddaedjgbakkaaSumFill
namespace Go.Proofs.Ytkddaedjgbakkaa.Sum
open Go.RowKit Go.Proofs.Ytkddaedjgbakkaa.Mem Go.Proofs.Ytkddaedjgbakkaa.Once
set_option linter.unusedVariables false
set_option linter.unusedSimpArgs false
/-- The entries. -/
def tab (i : Nat) : Nat := if i < 256 then ei i else 0
theorem tb_c0 {w : World} {b : Nat} {d d' s : Int} {f : Nat → Nat} (h : Tb w b d s f) : Tb (w.setCell ⟨b, 0, none⟩ (.int .u32 d')) b d' s f := by
  refine ⟨World.cell?_setCell_same w _ _ h.c0, ?_, fun i hi => ?_, fun i hi => ?_⟩
  · exact (World.cell?_setCell_other w ⟨b, 0, none⟩ ⟨b, 1, none⟩ _ (by simp)).trans h.c1
  · exact (World.cell?_setCell_other w ⟨b, 0, none⟩ ⟨b, 3 + i, none⟩ _ (by first | (simp; done) | (simp; omega))).trans (h.cE i hi)
  · rw [World.frozen?_setCell]; exact h.z i hi
theorem tb_c1 {w : World} {b : Nat} {d s s' : Int} {f : Nat → Nat} (h : Tb w b d s f) : Tb (w.setCell ⟨b, 1, none⟩ (.int .i32 s')) b d s' f := by
  refine ⟨?_, World.cell?_setCell_same w _ _ h.c1, fun i hi => ?_, fun i hi => ?_⟩
  · exact (World.cell?_setCell_other w ⟨b, 1, none⟩ ⟨b, 0, none⟩ _ (by simp)).trans h.c0
  · exact (World.cell?_setCell_other w ⟨b, 1, none⟩ ⟨b, 3 + i, none⟩ _ (by first | (simp; done) | (simp; omega))).trans (h.cE i hi)
  · rw [World.frozen?_setCell]; exact h.z i hi
theorem tb_drew {w : World} {b : Nat} {d s : Int} {f : Nat → Nat} (h : Tb w b d s f) : Tb w.drew b d s f := ⟨h.c0, h.c1, h.cE, h.z⟩
set_option maxRecDepth 100000 in
set_option maxHeartbeats 1600000 in
theorem slow_any (b : Nat) (w : World) (h : Tb w b 0 0 (fun _ => 0)) :
    Calls Try.prog 25 #[.pointer (some ⟨b, 0, none⟩), .func (.func 22) #[.pointer (some ⟨b, 0, none⟩)] #[]] w fun e w' => e = .returned (.tuple #[]) ∧ Tb w' b 1 0 tab ∧ Chg (fun x => x = b) w w' := by
  have h1 : Tb (w.setCell ⟨b, 1, none⟩ (.int .i32 1)) b 0 1 (fun _ => 0) := tb_c1 h
  have hl := run_call_load (P := Try.prog) Try.func26 (by kernel_rfl) (by kernel_rfl) (by kernel_rfl) .u32 (by kernel_rfl) h1.c0
  have hnot : ∀ (x : Bool) (w : World), (Op.unary .not (.bool x)).run Try.prog w = .ok (.bool (!x)) w := fun _ _ => rfl
  have hL := lock_free ⟨b, 1, none⟩ w h.c1 (h.z 1 (by omega))
  have hF := Lib.hid (fill_any b 0 1 _ h1)
  have HC := Lib.hid (chg_set (b := b) (i := 1) (v := .int .i32 1) (chg_refl (fun x => x = b) w) rfl)
  clear h h1
  go_enter_defers Try.func25, Try.ntmps25
  go_wp2_with (first | (go_at_call 27; refine hL.mono ?_; rintro e w' ⟨rfl, rfl⟩) | (go_at_call 24; go_in) | (go_at_call 22; refine hF.out.mono ?_; rintro e w2 ⟨rfl, hT, hC⟩))
  (try go_wp2)
  (try (show Leaves _ _ _ _ _ _))
  refine leaves_cons (f := 29) (args := #[.pointer (some ⟨b, 0, none⟩), .bool true]) (by simp) (by simp [go_sem]) ?_
  refine (store_deferred ⟨b, 0, none⟩ (.int .u32 0) .returning _ hT.c0 (hT.z 0 (by omega))).mono ?_
  rintro e u' w'' ⟨rfl, rfl, rfl⟩
  have hT2 := tb_c0 (d' := 1) (tb_drew hT)
  refine leaves_cons (f := 28) (args := #[.pointer (some ⟨b, 1, none⟩)]) (by simp [settle]) (by simp [go_sem]) ?_
  refine (unlock_deferred ⟨b, 1, none⟩ _ _ hT2.c1 (hT2.z 1 (by omega))).mono ?_
  rintro e u' w'' ⟨rfl, rfl, rfl⟩
  have hE := tb_c1 (s' := 0) hT2
  have hD := chg_set (i := 1) (v := .int .i32 0) (chg_set (i := 0) (v := .int .u32 1) (chg_drew (chg_then HC.out hC)) rfl) rfl
  simp [Leaves, settle, results, Try.results25]
  exact ⟨hE, hD⟩
theorem do_first (b : Nat) (w : World) (h : Tb w b 0 0 (fun _ => 0)) :
    Calls Try.prog 21 #[.pointer (some ⟨b, 0, none⟩), .func (.func 22) #[.pointer (some ⟨b, 0, none⟩)] #[]] w fun e w' => e = .returned (.tuple #[]) ∧ Tb w' b 1 0 tab ∧ Chg (fun x => x = b) w w' := by
  have hl := run_call_load (P := Try.prog) Try.func26 (by kernel_rfl) (by kernel_rfl) (by kernel_rfl) .u32 (by kernel_rfl) h.c0
  have hnot : ∀ (x : Bool) (w : World), (Op.unary .not (.bool x)).run Try.prog w = .ok (.bool (!x)) w := fun _ _ => rfl
  have HS := Lib.hid (slow_any b w h)
  clear h
  go_enter Try.func21, Try.ntmps21
  go_wp2_with (first | (go_at_call 25; refine HS.out.mono ?_; rintro e w' ⟨rfl, hT, hC⟩) | (go_at_call 24; go_in))
  go_end0
  exact ⟨rfl, hT, hC⟩
theorem do_done (b : Nat) (fv : Value) (w : World) (h : Tb w b 1 0 tab) :
    Calls Try.prog 21 #[.pointer (some ⟨b, 0, none⟩), fv] w fun e w' => e = .returned (.tuple #[]) ∧ w' = w := by
  have hl := run_call_load (P := Try.prog) Try.func26 (by kernel_rfl) (by kernel_rfl) (by kernel_rfl) .u32 (by kernel_rfl) h.c0
  have hnot : ∀ (x : Bool) (w : World), (Op.unary .not (.bool x)).run Try.prog w = .ok (.bool (!x)) w := fun _ _ => rfl
  clear h
  go_enter Try.func21, Try.ntmps21
  go_wp2
  go_end0
  exact ⟨rfl, rfl⟩
/-- A table: new, or asked already. -/
def IsTab (w : World) (b : Nat) : Prop := Tb w b 0 0 (fun _ => 0) ∨ Tb w b 1 0 tab
theorem do_any (b : Nat) (w : World) (h : IsTab w b) :
    Calls Try.prog 21 #[.pointer (some ⟨b, 0, none⟩), .func (.func 22) #[.pointer (some ⟨b, 0, none⟩)] #[]] w fun e w' => e = .returned (.tuple #[]) ∧ Tb w' b 1 0 tab ∧ Chg (fun x => x = b) w w' := by
  rcases h with h | h
  · exact do_first b w h
  · refine (do_done b _ w h).mono ?_
    rintro e w' ⟨rfl, rfl⟩
    exact ⟨rfl, h, chg_refl _ _⟩
end Go.Proofs.Ytkddaedjgbakkaa.Sum

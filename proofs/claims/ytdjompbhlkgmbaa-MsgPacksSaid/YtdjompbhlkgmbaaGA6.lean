/- What the row needs, laid together out of MsgUnZ, MsgItems, MsgEnc, MsgPackT (own texts and texts printed for this seat; wip/tools/group.py). -/
import Derived.Test.YtdjompbhlkgmbaaGA5
import Derived.Laws.Bits64b
section
/- Unpack of the chapter's example (own text; written by wip/tools/gen_msgunz.py). -/
namespace Go.Proofs.Ytdjompbhlkgmbaa.Msg
open Go.RowKit Go.Proofs.Ytdjompbhlkgmbaa.Mem Go.Proofs.YtdjompbhlkgmbaaW.PrintWords Go.Proofs.YtdjompbhlkgmbaaW.PrintLast Go.Proofs.YtdjompbhlkgmbaaW.PrintMore
set_option linter.unusedVariables false
set_option linter.unusedSimpArgs false
theorem at_set12_ne {w : World} {b b' : Nat} {v0 v1 v2 v3 v4 v5 v6 v7 v8 v9 v10 v11 : Value} {cs : Array Value} {t : TypeId} (h : At w b cs t) (hne : b ≠ b') : At ((((((((((((w.setCell ⟨b', 0, none⟩ (v0)).setCell ⟨b', 1, none⟩ (v1)).setCell ⟨b', 2, none⟩ (v2)).setCell ⟨b', 3, none⟩ (v3)).setCell ⟨b', 4, none⟩ (v4)).setCell ⟨b', 5, none⟩ (v5)).setCell ⟨b', 6, none⟩ (v6)).setCell ⟨b', 7, none⟩ (v7)).setCell ⟨b', 8, none⟩ (v8)).setCell ⟨b', 9, none⟩ (v9)).setCell ⟨b', 10, none⟩ (v10)).setCell ⟨b', 11, none⟩ (v11)) b cs t :=
  at_set_ne (hne := hne) (at_set_ne (hne := hne) (at_set_ne (hne := hne) (at_set_ne (hne := hne) (at_set_ne (hne := hne) (at_set_ne (hne := hne) (at_set_ne (hne := hne) (at_set_ne (hne := hne) (at_set_ne (hne := hne) (at_set_ne (hne := hne) (at_set_ne (hne := hne) (at_set_ne (hne := hne) (h))))))))))))
theorem at_set12 {w : World} {b : Nat} {v0 v1 v2 v3 v4 v5 v6 v7 v8 v9 v10 v11 u0 u1 u2 u3 u4 u5 u6 u7 u8 u9 u10 u11 : Value} {t : TypeId} (h : At w b #[u0, u1, u2, u3, u4, u5, u6, u7, u8, u9, u10, u11] t) : At ((((((((((((w.setCell ⟨b, 0, none⟩ (v0)).setCell ⟨b, 1, none⟩ (v1)).setCell ⟨b, 2, none⟩ (v2)).setCell ⟨b, 3, none⟩ (v3)).setCell ⟨b, 4, none⟩ (v4)).setCell ⟨b, 5, none⟩ (v5)).setCell ⟨b, 6, none⟩ (v6)).setCell ⟨b, 7, none⟩ (v7)).setCell ⟨b, 8, none⟩ (v8)).setCell ⟨b, 9, none⟩ (v9)).setCell ⟨b, 10, none⟩ (v10)).setCell ⟨b, 11, none⟩ (v11)) b #[v0, v1, v2, v3, v4, v5, v6, v7, v8, v9, v10, v11] t := by
  have h0 : At (w.setCell ⟨b, 0, none⟩ v0) b #[v0, u1, u2, u3, u4, u5, u6, u7, u8, u9, u10, u11] t := at_set' h rfl
  have h1 : At ((w.setCell ⟨b, 0, none⟩ v0).setCell ⟨b, 1, none⟩ v1) b #[v0, v1, u2, u3, u4, u5, u6, u7, u8, u9, u10, u11] t := at_set' h0 rfl
  have h2 : At (((w.setCell ⟨b, 0, none⟩ v0).setCell ⟨b, 1, none⟩ v1).setCell ⟨b, 2, none⟩ v2) b #[v0, v1, v2, u3, u4, u5, u6, u7, u8, u9, u10, u11] t := at_set' h1 rfl
  have h3 : At ((((w.setCell ⟨b, 0, none⟩ v0).setCell ⟨b, 1, none⟩ v1).setCell ⟨b, 2, none⟩ v2).setCell ⟨b, 3, none⟩ v3) b #[v0, v1, v2, v3, u4, u5, u6, u7, u8, u9, u10, u11] t := at_set' h2 rfl
  have h4 : At (((((w.setCell ⟨b, 0, none⟩ v0).setCell ⟨b, 1, none⟩ v1).setCell ⟨b, 2, none⟩ v2).setCell ⟨b, 3, none⟩ v3).setCell ⟨b, 4, none⟩ v4) b #[v0, v1, v2, v3, v4, u5, u6, u7, u8, u9, u10, u11] t := at_set' h3 rfl
  have h5 : At ((((((w.setCell ⟨b, 0, none⟩ v0).setCell ⟨b, 1, none⟩ v1).setCell ⟨b, 2, none⟩ v2).setCell ⟨b, 3, none⟩ v3).setCell ⟨b, 4, none⟩ v4).setCell ⟨b, 5, none⟩ v5) b #[v0, v1, v2, v3, v4, v5, u6, u7, u8, u9, u10, u11] t := at_set' h4 rfl
  have h6 : At (((((((w.setCell ⟨b, 0, none⟩ v0).setCell ⟨b, 1, none⟩ v1).setCell ⟨b, 2, none⟩ v2).setCell ⟨b, 3, none⟩ v3).setCell ⟨b, 4, none⟩ v4).setCell ⟨b, 5, none⟩ v5).setCell ⟨b, 6, none⟩ v6) b #[v0, v1, v2, v3, v4, v5, v6, u7, u8, u9, u10, u11] t := at_set' h5 rfl
  have h7 : At ((((((((w.setCell ⟨b, 0, none⟩ v0).setCell ⟨b, 1, none⟩ v1).setCell ⟨b, 2, none⟩ v2).setCell ⟨b, 3, none⟩ v3).setCell ⟨b, 4, none⟩ v4).setCell ⟨b, 5, none⟩ v5).setCell ⟨b, 6, none⟩ v6).setCell ⟨b, 7, none⟩ v7) b #[v0, v1, v2, v3, v4, v5, v6, v7, u8, u9, u10, u11] t := at_set' h6 rfl
  have h8 : At (((((((((w.setCell ⟨b, 0, none⟩ v0).setCell ⟨b, 1, none⟩ v1).setCell ⟨b, 2, none⟩ v2).setCell ⟨b, 3, none⟩ v3).setCell ⟨b, 4, none⟩ v4).setCell ⟨b, 5, none⟩ v5).setCell ⟨b, 6, none⟩ v6).setCell ⟨b, 7, none⟩ v7).setCell ⟨b, 8, none⟩ v8) b #[v0, v1, v2, v3, v4, v5, v6, v7, v8, u9, u10, u11] t := at_set' h7 rfl
  have h9 : At ((((((((((w.setCell ⟨b, 0, none⟩ v0).setCell ⟨b, 1, none⟩ v1).setCell ⟨b, 2, none⟩ v2).setCell ⟨b, 3, none⟩ v3).setCell ⟨b, 4, none⟩ v4).setCell ⟨b, 5, none⟩ v5).setCell ⟨b, 6, none⟩ v6).setCell ⟨b, 7, none⟩ v7).setCell ⟨b, 8, none⟩ v8).setCell ⟨b, 9, none⟩ v9) b #[v0, v1, v2, v3, v4, v5, v6, v7, v8, v9, u10, u11] t := at_set' h8 rfl
  have h10 : At (((((((((((w.setCell ⟨b, 0, none⟩ v0).setCell ⟨b, 1, none⟩ v1).setCell ⟨b, 2, none⟩ v2).setCell ⟨b, 3, none⟩ v3).setCell ⟨b, 4, none⟩ v4).setCell ⟨b, 5, none⟩ v5).setCell ⟨b, 6, none⟩ v6).setCell ⟨b, 7, none⟩ v7).setCell ⟨b, 8, none⟩ v8).setCell ⟨b, 9, none⟩ v9).setCell ⟨b, 10, none⟩ v10) b #[v0, v1, v2, v3, v4, v5, v6, v7, v8, v9, v10, u11] t := at_set' h9 rfl
  have h11 : At ((((((((((((w.setCell ⟨b, 0, none⟩ v0).setCell ⟨b, 1, none⟩ v1).setCell ⟨b, 2, none⟩ v2).setCell ⟨b, 3, none⟩ v3).setCell ⟨b, 4, none⟩ v4).setCell ⟨b, 5, none⟩ v5).setCell ⟨b, 6, none⟩ v6).setCell ⟨b, 7, none⟩ v7).setCell ⟨b, 8, none⟩ v8).setCell ⟨b, 9, none⟩ v9).setCell ⟨b, 10, none⟩ v10).setCell ⟨b, 11, none⟩ v11) b #[v0, v1, v2, v3, v4, v5, v6, v7, v8, v9, v10, v11] t := at_set' h10 rfl
  exact h11
theorem chg_le {S T : Nat → Prop} {w w' : World} (h : Chg S w w') (k : ∀ x, S x → T x) : Chg T w w' := ⟨h.os, h.tape, h.output, h.size, fun i hi hs => h.block i hi (fun g => hs (k i g))⟩
theorem step_ {P : Program} {ops : Array Oper} {Q : Exit → Act → World → Prop} {i : Nat} {rest : List Nat} {oi : Oper} {a : Act} {w : World} (hi : ops[i]? = some oi)
    (h : if Region.wanted oi (yielded ops a.tmps) = true then Oper.wp P oi a w (wpOps P ops Q rest) Q else wpOps P ops Q rest (a.put oi.dst undef) w) : wpOps P ops Q (i :: rest) a w := by
  rw [wpOps, hi]
  simp only []
  split at h
  · rename_i hw
    rw [if_pos hw]
    exact .inl h
  · rename_i hw
    rw [if_neg hw]
    exact h
theorem tb_chgS {S : Nat → Prop} {w w' : World} {b : Nat} {d s : Int} {f : Nat → Nat} (h : Sum.Tb w b d s f) (k : Chg S w w') (hne : ¬ S b) : Sum.Tb w' b d s f := by
  have hl := World.block_lt_of_cell? w _ h.c0
  have hb := k.block b hl hne
  have hc : ∀ i, w'.cell? ⟨b, i, none⟩ = w.cell? ⟨b, i, none⟩ := fun i => by unfold World.cell?; simp only [hb]
  have hf : ∀ i, w'.frozen? ⟨b, i, none⟩ = w.frozen? ⟨b, i, none⟩ := fun i => by unfold World.frozen?; simp only [hb]
  exact ⟨(hc 0).trans h.c0, (hc 1).trans h.c1, fun i hi => (hc _).trans (h.cE i hi), fun i hi => (hf _).trans (h.z i hi)⟩
theorem is_chgS {S : Nat → Prop} {w w' : World} {b : Nat} (h : Sum.IsTab w b) (k : Chg S w w') (hne : ¬ S b) : Sum.IsTab w' b := h.imp (fun h => tb_chgS h k hne) (fun h => tb_chgS h k hne)
theorem chg_set12 {S : Nat → Prop} {w w' : World} {b : Nat} {v0 v1 v2 v3 v4 v5 v6 v7 v8 v9 v10 v11 : Value} (h : Chg S w w') (hb : S b) : Chg S w ((((((((((((w'.setCell ⟨b, 0, none⟩ (v0)).setCell ⟨b, 1, none⟩ (v1)).setCell ⟨b, 2, none⟩ (v2)).setCell ⟨b, 3, none⟩ (v3)).setCell ⟨b, 4, none⟩ (v4)).setCell ⟨b, 5, none⟩ (v5)).setCell ⟨b, 6, none⟩ (v6)).setCell ⟨b, 7, none⟩ (v7)).setCell ⟨b, 8, none⟩ (v8)).setCell ⟨b, 9, none⟩ (v9)).setCell ⟨b, 10, none⟩ (v10)).setCell ⟨b, 11, none⟩ (v11)) := chg_set (chg_set (chg_set (chg_set (chg_set (chg_set (chg_set (chg_set (chg_set (chg_set (chg_set (chg_set h hb) hb) hb) hb) hb) hb) hb) hb) hb) hb) hb) hb
def zB : ByteArray := ⟨#[0, 0, 0, 0, 0, 0, 0, 0, 0]⟩
theorem numZ : numR zB 0 0 4294967295 = (0, 1, 0) ∧ numR zB 1 0 63 = (0, 2, 0) ∧ numR zB 2 0 63 = (0, 3, 0) ∧ numR zB 3 0 1 = (0, 4, 0) ∧ numR zB 4 0 4096 = (0, 5, 0) ∧ numR zB 5 0 4096 = (0, 6, 0) ∧ numR zB 6 0 4096 = (0, 7, 0) ∧ numR zB 7 0 4096 = (0, 8, 0) ∧ numR zB 8 0 4096 = (0, 9, 0) := by
  refine ⟨?_, ?_, ?_, ?_, ?_, ?_, ?_, ?_, ?_⟩ <;> kernel_rfl
set_option maxRecDepth 100000 in
set_option maxHeartbeats 1000000 in
theorem unpackZ (b c tb : Nat) (S : ByteArray) (w : World) (hc : MCod w b c tb) (hS : S.size ≤ 999000) (hd : Frame.decR S = (1, 2, 3, zB, 0)) :
    Calls Try.prog 12 #[.pointer (some ⟨b, 0, none⟩), .string S] w fun e w' => e = .returned (.tuple #[.agg #[.int .u8 1, .int .u8 2, .int .u8 3, .int .u32 0, .int .u8 0, .int .u8 0, .bool false, .slice none 0 0, .slice none 0 0, .slice none 0 0, .slice none 0 0, .slice none 0 0], .int .i64 0]) ∧ Sum.IsTab w' tb ∧ Chg (fun x => x = tb) w w' := by
  have hmf : ∀ (fn : Fn) (first cap : Array Value) (w : World), (Instr.makeFunc fn first cap).run Try.prog w = .ok (.func fn first cap) w := fun _ _ _ _ => rfl
  have HC := Lib.hid hc
  have DE := Lib.hid (show ∀ (W : World) (h : Frame.Cod W c tb), Calls Try.prog 27 #[.pointer (some ⟨c, 0, none⟩), .string S] W fun e w' => e = .returned (.tuple #[.agg #[.int .u8 1, .int .u8 2, .int .u8 3, .string zB], .int .i64 0]) ∧ Sum.IsTab w' tb ∧ Chg (fun x => x = tb) W w' from fun W h => by
    have := Frame.pdec c tb S W h hS
    rw [hd] at this
    exact this)
  clear hc hd hS
  go_enter_defers Try.func12, Try.ntmps12
  go_upto_region 3 with (fail)
  have AZ := Lib.hid (at_alloc (o := .cells #[.int .i64 0] 32) (at_new w #[.int .u8 0, .int .u8 0, .int .u8 0, .int .u32 0, .int .u8 0, .int .u8 0, .bool false, .slice none 0 0, .slice none 0 0, .slice none 0 0, .slice none 0 0, .slice none 0 0] 29))
  have AE := Lib.hid (at_new (w.alloc (.cells #[.int .u8 0, .int .u8 0, .int .u8 0, .int .u32 0, .int .u8 0, .int .u8 0, .bool false, .slice none 0 0, .slice none 0 0, .slice none 0 0, .slice none 0 0, .slice none 0 0] 29)) #[.int .i64 0] 32)
  rw [World.size_alloc] at AE
  have HB := Lib.hid (below_alloc (below_alloc (Below.refl w.heap.size w) (.cells #[.int .u8 0, .int .u8 0, .int .u8 0, .int .u32 0, .int .u8 0, .int .u8 0, .bool false, .slice none 0 0, .slice none 0 0, .slice none 0 0, .slice none 0 0, .slice none 0 0] 29)) (.cells #[.int .i64 0] 32))
  generalize (w.alloc (.cells #[.int .u8 0, .int .u8 0, .int .u8 0, .int .u32 0, .int .u8 0, .int .u8 0, .bool false, .slice none 0 0, .slice none 0 0, .slice none 0 0, .slice none 0 0, .slice none 0 0] 29)).alloc (.cells #[.int .i64 0] 32) = w1 at *
  have HTL := Lib.hid (Frame.isTab_lt HC.out.c.t)
  have HC1 := Lib.hid (HC.out.below HB.out)
  clear HC
  obtain ⟨z4, hz4⟩ : ∃ z, z = w.heap.size := ⟨_, rfl⟩
  obtain ⟨z5, hz5⟩ : ∃ z, z = w.heap.size + 1 := ⟨_, rfl⟩
  have HZ := Lib.hid (show (z4 ≠ z5 ∧ tb < z4 ∧ tb < z5) ∧ w.heap.size ≤ z4 ∧ w.heap.size ≤ z5 from by have := HTL.out; omega)
  rw [← hz5] at AE
  rw [← hz4] at AZ
  rw [← hz5, ← hz4]
  have HK := Lib.hid (chg_below (chg_refl (fun x => x = tb) w) HB.out)
  clear HB hz4 hz5
  have ec : w1.cell? ⟨b, 0, none⟩ = some (.pointer (some ⟨c, 0, none⟩)) := HC1.out.a.cell 0
  have e5 : w1.cell? ⟨z5, 0, none⟩ = some (.int .i64 0) := AE.out.cell 0
  go_upto_region 4 with (go_at_call 27; (with_reducible refine (DE.out _ HC1.out.c).mono ?_); rintro e w2 ⟨rfl, ht, hk⟩; have HC2 := Lib.hid (HC1.out.chg ht hk); have AZ2 := Lib.hid (at_chg AZ.out hk (by have := HZ.out; omega)); have AE2 := Lib.hid (at_chg AE.out hk (by have := HZ.out; omega)); have HK2 := Lib.hid (chg_then HK.out hk); clear ht hk HC1 AZ AE HK; have AE3 := Lib.hid (at_alloc (o := .cells #[.int .u8 1, .int .u8 2, .int .u8 3, .string zB] 46) AE2.out); have e5' := AE3.out.cell 0; have f5' := AE3.out.free 0; simp only [List.getElem?_toArray, List.getElem?_cons_zero] at e5')
  have HL2 := Lib.hid (show z4 < w2.heap.size ∧ z5 < w2.heap.size from ⟨AZ2.out.lt, AE2.out.lt⟩)
  have AF3 := Lib.hid (at_set_ne (b' := z5) (i := 0) (v := .int .i64 0) (at_new w2 #[.int .u8 1, .int .u8 2, .int .u8 3, .string zB] 46) (by have := HL2.out; omega))
  have AZ3 := Lib.hid (at_set_ne (b' := z5) (i := 0) (v := .int .i64 0) (at_alloc (o := .cells #[.int .u8 1, .int .u8 2, .int .u8 3, .string zB] 46) AZ2.out) HZ.out.1.1)
  replace AE3 := Lib.hid (at_set (i := 0) (v := .int .i64 0) AE3.out)
  have KX3 := Lib.hid (chg_set (b := z5) (i := 0) (v := .int .i64 0) (chg_alloc (o := .cells #[.int .u8 1, .int .u8 2, .int .u8 3, .string zB] 46) (chg_refl (fun x => w.heap.size ≤ x) w2)) HZ.out.2.2)
  have HT2 := Lib.hid HC2.out.c.t
  clear HC2 AZ2 AE2
  generalize ((w2.alloc (.cells #[.int .u8 1, .int .u8 2, .int .u8 3, .string zB] 46)).setCell ⟨z5, 0, none⟩ (.int .i64 0)) = w3 at *
  have HF := Lib.hid (show w2.heap.size ≠ z4 ∧ w2.heap.size ≠ z5 ∧ w.heap.size ≤ w2.heap.size from ⟨by have := HL2.out; omega, by have := HL2.out; omega, HK2.out.size⟩)
  clear HL2
  obtain ⟨zf, hzf⟩ : ∃ z, z = w2.heap.size := ⟨_, rfl⟩
  rw [← hzf] at AF3 HF
  rw [← hzf]
  clear hzf
  have e6 : w3.cell? ⟨z5, 0, none⟩ = some (.int .i64 0) := AE3.out.cell 0
  have e7 : w3.cell? ⟨zf, 3, none⟩ = some (.string zB) := AF3.out.cell 3
  go_upto_region 8 with (fail)
  have HL3 := Lib.hid (show (z4 < w3.heap.size ∧ z5 < w3.heap.size ∧ zf < w3.heap.size) from ⟨AZ3.out.lt, AE3.out.lt, AF3.out.lt⟩)
  have AR := Lib.hid (at_new w3 #[.string zB, .int .i64 0] 89)
  have AZ := Lib.hid (at_alloc (o := .cells #[.string zB, .int .i64 0] 89) AZ3.out)
  have AE := Lib.hid (at_alloc (o := .cells #[.string zB, .int .i64 0] 89) AE3.out)
  have AF := Lib.hid (at_alloc (o := .cells #[.string zB, .int .i64 0] 89) AF3.out)
  have KX := Lib.hid (chg_alloc (o := .cells #[.string zB, .int .i64 0] 89) KX3.out)
  clear AZ3 AE3 AF3 KX3
  generalize (w3.alloc (.cells #[.string zB, .int .i64 0] 89)) = w4 at *
  have HR := Lib.hid (show (z4 ≠ w3.heap.size ∧ z5 ≠ w3.heap.size ∧ zf ≠ w3.heap.size) ∧ w.heap.size ≤ w3.heap.size from by have := HL3.out; have := HZ.out; omega)
  clear HL3
  obtain ⟨zr, hzr⟩ : ∃ z, z = w3.heap.size := ⟨_, rfl⟩
  rw [← hzr] at AR HR
  rw [← hzr]
  clear hzr
  refine start_ (n := 20) (S := fun w' => w'.cell? ⟨zf, 0, none⟩ = some (.int .u8 1) ∧ w'.cell? ⟨zf, 1, none⟩ = some (.int .u8 2) ∧ w'.cell? ⟨zf, 2, none⟩ = some (.int .u8 3)) (ds := [19]) #[false, false, false, false, false, false, false, false, false, false, false, false, false, false, false, false, false, false, false, false] (by kernel_rfl) rfl rfl ⟨AF.out.cell 0, AF.out.cell 1, AF.out.cell 2⟩ (fun hHeld => ?_)
  replace AR := Lib.hid (at_drew AR.out)
  replace AZ := Lib.hid (at_drew AZ.out)
  replace AE := Lib.hid (at_drew AE.out)
  replace AF := Lib.hid (at_drew AF.out)
  replace KX := Lib.hid (chg_drew KX.out)
  generalize w4.drew = w5 at AR AZ AE AF KX hHeld ⊢
  refine pure_ (i := 0) (N := some 29) (v := ?_) (a' := ?_) #[true, false, false, false, false, false, false, false, false, false, false, false, false, false, false, false, false, false, false, false] rfl rfl (by kernel_rfl) (by intro _ _ _ h; exact put12 (d := 29) (by decide) (by decide) h) (Or.inl ⟨by rfl, ?_⟩) ?_ ?_
  rotate_left
  · intro w'
    go_simp
    with_reducible rfl
  rotate_left
  · simp only [Act.put, List.setIfInBounds_toArray, List.set_cons_zero, List.set_cons_succ, i64_w, i32_w]
    rfl
  refine pure_ (i := 2) (N := some 31) (v := ?_) (a' := ?_) #[true, false, true, false, false, false, false, false, false, false, false, false, false, false, false, false, false, false, false, false] rfl rfl (by kernel_rfl) (by intro _ _ _ h; exact put12 (d := 31) (by decide) (by decide) h) (Or.inl ⟨by rfl, ?_⟩) ?_ ?_
  rotate_left
  · intro w'
    go_simp
    with_reducible rfl
  rotate_left
  · simp only [Act.put, List.setIfInBounds_toArray, List.set_cons_zero, List.set_cons_succ, i64_w, i32_w]
    rfl
  refine pure_ (i := 4) (N := some 33) (v := ?_) (a' := ?_) #[true, false, true, false, true, false, false, false, false, false, false, false, false, false, false, false, false, false, false, false] rfl rfl (by kernel_rfl) (by intro _ _ _ h; exact put12 (d := 33) (by decide) (by decide) h) (Or.inl ⟨by rfl, ?_⟩) ?_ ?_
  rotate_left
  · intro w'
    go_simp
    with_reducible rfl
  rotate_left
  · simp only [Act.put, List.setIfInBounds_toArray, List.set_cons_zero, List.set_cons_succ, i64_w, i32_w]
    rfl
  refine pure_ (i := 6) (N := some 35) (v := ?_) (a' := ?_) #[true, false, true, false, true, false, true, false, false, false, false, false, false, false, false, false, false, false, false, false] rfl rfl (by kernel_rfl) (by intro _ _ _ h; exact put12 (d := 35) (by decide) (by decide) h) (Or.inl ⟨by rfl, ?_⟩) ?_ ?_
  rotate_left
  · intro w'
    go_simp
    with_reducible rfl
  rotate_left
  · simp only [Act.put, List.setIfInBounds_toArray, List.set_cons_zero, List.set_cons_succ, i64_w, i32_w]
    rfl
  refine pure_ (i := 9) (N := some 38) (v := ?_) (a' := ?_) #[true, false, true, false, true, false, true, false, false, true, false, false, false, false, false, false, false, false, false, false] rfl rfl (by kernel_rfl) (by intro _ _ _ h; exact put12 (d := 38) (by decide) (by decide) h) (Or.inl ⟨by rfl, ?_⟩) ?_ ?_
  rotate_left
  · intro w'
    go_simp
    with_reducible rfl
  rotate_left
  · simp only [Act.put, List.setIfInBounds_toArray, List.set_cons_zero, List.set_cons_succ, i64_w, i32_w]
    rfl
  refine pure_ (i := 12) (N := some 41) (v := ?_) (a' := ?_) #[true, false, true, false, true, false, true, false, false, true, false, false, true, false, false, false, false, false, false, false] rfl rfl (by kernel_rfl) (by intro _ _ _ h; exact put12 (d := 41) (by decide) (by decide) h) (Or.inl ⟨by rfl, ?_⟩) ?_ ?_
  rotate_left
  · intro w'
    go_simp
    with_reducible rfl
  rotate_left
  · simp only [Act.put, List.setIfInBounds_toArray, List.set_cons_zero, List.set_cons_succ, i64_w, i32_w]
    rfl
  refine pure_ (i := 15) (N := some 44) (v := ?_) (a' := ?_) #[true, false, true, false, true, false, true, false, false, true, false, false, true, false, false, true, false, false, false, false] rfl rfl (by kernel_rfl) (by intro _ _ _ h; exact put12 (d := 44) (by decide) (by decide) h) (Or.inl ⟨by rfl, ?_⟩) ?_ ?_
  rotate_left
  · intro w'
    go_simp
    with_reducible rfl
  rotate_left
  · simp only [Act.put, List.setIfInBounds_toArray, List.set_cons_zero, List.set_cons_succ, i64_w, i32_w]
    rfl
  refine take_ (i := 1) (N := some 30) (v := ?_) (a' := ?_) #[true, true, true, false, true, false, true, false, false, true, false, false, true, false, false, true, false, false, false, false] rfl rfl (by kernel_rfl) (by intro _ _ _ h; exact put12 (d := 30) (by decide) (by decide) h) (Or.inl ⟨by rfl, ?_⟩) hHeld ?_ ?_
  rotate_left
  · rintro w' ⟨s0, s1, s2⟩
    go_simp
    with_reducible rfl
  rotate_left
  · simp only [Act.put, List.setIfInBounds_toArray, List.set_cons_zero, List.set_cons_succ, i64_w, i32_w]
    rfl
  refine take_ (i := 3) (N := some 32) (v := ?_) (a' := ?_) #[true, true, true, true, true, false, true, false, false, true, false, false, true, false, false, true, false, false, false, false] rfl rfl (by kernel_rfl) (by intro _ _ _ h; exact put12 (d := 32) (by decide) (by decide) h) (Or.inl ⟨by rfl, ?_⟩) hHeld ?_ ?_
  rotate_left
  · rintro w' ⟨s0, s1, s2⟩
    go_simp
    with_reducible rfl
  rotate_left
  · simp only [Act.put, List.setIfInBounds_toArray, List.set_cons_zero, List.set_cons_succ, i64_w, i32_w]
    rfl
  refine take_ (i := 5) (N := some 34) (v := ?_) (a' := ?_) #[true, true, true, true, true, true, true, false, false, true, false, false, true, false, false, true, false, false, false, false] rfl rfl (by kernel_rfl) (by intro _ _ _ h; exact put12 (d := 34) (by decide) (by decide) h) (Or.inl ⟨by rfl, ?_⟩) hHeld ?_ ?_
  rotate_left
  · rintro w' ⟨s0, s1, s2⟩
    go_simp
    with_reducible rfl
  rotate_left
  · simp only [Act.put, List.setIfInBounds_toArray, List.set_cons_zero, List.set_cons_succ, i64_w, i32_w]
    rfl
  refine one_ (i := 7) (N := some 36) #[true, true, true, true, true, true, true, true, false, true, false, false, true, false, false, true, false, false, false, false] rfl rfl (by kernel_rfl) (by decide) (fun K hK => ?_)
  refine goes_ Try.func29 (by kernel_rfl) rfl #[.pointer (some ⟨zr, 0, none⟩), .int .u64 0, .int .u64 4294967295] (by rfl) rfl rfl (by simp only [List.map_toArray, List.map_cons, List.map_nil]; rfl) ?_
  with_reducible refine (rnum_is zr zB 0 0 4294967295 0 1 numZ.1 (by decide) _ AR.out).mono ?_
  rintro e w11 ⟨rfl, ha, hk⟩
  refine ⟨_, rfl, ?_⟩
  have AR11 := Lib.hid ha
  have AZ11 := Lib.hid (at_chg AZ.out hk HR.out.1.1)
  have AE11 := Lib.hid (at_chg AE.out hk HR.out.1.2.1)
  have AF11 := Lib.hid (at_chg AF.out hk HR.out.1.2.2)
  have KX11 := Lib.hid (chg_then KX.out (chg_le hk (fun x e => by rw [e]; exact HR.out.2)))
  clear ha hk AR AZ AE AF KX
  refine hK.out _ _ ⟨AF11.out.cell 0, AF11.out.cell 1, AF11.out.cell 2⟩ (fun hHeld => ?_)
  clear hK K
  refine norm_ (a' := ?_) ?_ ?_
  rotate_left
  · show Act.put _ (some 36) _ = _
    simp only [Act.put, List.setIfInBounds_toArray, List.set_cons_zero, List.set_cons_succ, i64_w, i32_w]
    rfl
  refine pure_ (i := 8) (N := some 37) (v := ?_) (a' := ?_) #[true, true, true, true, true, true, true, true, true, true, false, false, true, false, false, true, false, false, false, false] rfl rfl (by kernel_rfl) (by intro _ _ _ h; exact put12 (d := 37) (by decide) (by decide) h) (Or.inl ⟨by rfl, ?_⟩) ?_ ?_
  rotate_left
  · intro w'
    go_simp
    with_reducible rfl
  rotate_left
  · simp only [Act.put, List.setIfInBounds_toArray, List.set_cons_zero, List.set_cons_succ, i64_w, i32_w]
    rfl
  refine one_ (i := 10) (N := some 39) #[true, true, true, true, true, true, true, true, true, true, true, false, true, false, false, true, false, false, false, false] rfl rfl (by kernel_rfl) (by decide) (fun K hK => ?_)
  refine goes_ Try.func29 (by kernel_rfl) rfl #[.pointer (some ⟨zr, 0, none⟩), .int .u64 0, .int .u64 63] (by rfl) rfl rfl (by simp only [List.map_toArray, List.map_cons, List.map_nil]; rfl) ?_
  with_reducible refine (rnum_is zr zB 1 0 63 0 2 numZ.2.1 (by decide) _ AR11.out).mono ?_
  rintro e w12 ⟨rfl, ha, hk⟩
  refine ⟨_, rfl, ?_⟩
  have AR12 := Lib.hid ha
  have AZ12 := Lib.hid (at_chg AZ11.out hk HR.out.1.1)
  have AE12 := Lib.hid (at_chg AE11.out hk HR.out.1.2.1)
  have AF12 := Lib.hid (at_chg AF11.out hk HR.out.1.2.2)
  have KX12 := Lib.hid (chg_then KX11.out (chg_le hk (fun x e => by rw [e]; exact HR.out.2)))
  clear ha hk AR11 AZ11 AE11 AF11 KX11
  refine hK.out _ _ ⟨AF12.out.cell 0, AF12.out.cell 1, AF12.out.cell 2⟩ (fun hHeld => ?_)
  clear hK K
  refine norm_ (a' := ?_) ?_ ?_
  rotate_left
  · show Act.put _ (some 39) _ = _
    simp only [Act.put, List.setIfInBounds_toArray, List.set_cons_zero, List.set_cons_succ, i64_w, i32_w]
    rfl
  refine pure_ (i := 11) (N := some 40) (v := ?_) (a' := ?_) #[true, true, true, true, true, true, true, true, true, true, true, true, true, false, false, true, false, false, false, false] rfl rfl (by kernel_rfl) (by intro _ _ _ h; exact put12 (d := 40) (by decide) (by decide) h) (Or.inl ⟨by rfl, ?_⟩) ?_ ?_
  rotate_left
  · intro w'
    go_simp
    with_reducible rfl
  rotate_left
  · simp only [Act.put, List.setIfInBounds_toArray, List.set_cons_zero, List.set_cons_succ, i64_w, i32_w]
    rfl
  refine one_ (i := 13) (N := some 42) #[true, true, true, true, true, true, true, true, true, true, true, true, true, true, false, true, false, false, false, false] rfl rfl (by kernel_rfl) (by decide) (fun K hK => ?_)
  refine goes_ Try.func29 (by kernel_rfl) rfl #[.pointer (some ⟨zr, 0, none⟩), .int .u64 0, .int .u64 63] (by rfl) rfl rfl (by simp only [List.map_toArray, List.map_cons, List.map_nil]; rfl) ?_
  with_reducible refine (rnum_is zr zB 2 0 63 0 3 numZ.2.2.1 (by decide) _ AR12.out).mono ?_
  rintro e w13 ⟨rfl, ha, hk⟩
  refine ⟨_, rfl, ?_⟩
  have AR13 := Lib.hid ha
  have AZ13 := Lib.hid (at_chg AZ12.out hk HR.out.1.1)
  have AE13 := Lib.hid (at_chg AE12.out hk HR.out.1.2.1)
  have AF13 := Lib.hid (at_chg AF12.out hk HR.out.1.2.2)
  have KX13 := Lib.hid (chg_then KX12.out (chg_le hk (fun x e => by rw [e]; exact HR.out.2)))
  clear ha hk AR12 AZ12 AE12 AF12 KX12
  refine hK.out _ _ ⟨AF13.out.cell 0, AF13.out.cell 1, AF13.out.cell 2⟩ (fun hHeld => ?_)
  clear hK K
  refine norm_ (a' := ?_) ?_ ?_
  rotate_left
  · show Act.put _ (some 42) _ = _
    simp only [Act.put, List.setIfInBounds_toArray, List.set_cons_zero, List.set_cons_succ, i64_w, i32_w]
    rfl
  refine pure_ (i := 14) (N := some 43) (v := ?_) (a' := ?_) #[true, true, true, true, true, true, true, true, true, true, true, true, true, true, true, true, false, false, false, false] rfl rfl (by kernel_rfl) (by intro _ _ _ h; exact put12 (d := 43) (by decide) (by decide) h) (Or.inl ⟨by rfl, ?_⟩) ?_ ?_
  rotate_left
  · intro w'
    go_simp
    with_reducible rfl
  rotate_left
  · simp only [Act.put, List.setIfInBounds_toArray, List.set_cons_zero, List.set_cons_succ, i64_w, i32_w]
    rfl
  refine one_ (i := 16) (N := some 45) #[true, true, true, true, true, true, true, true, true, true, true, true, true, true, true, true, true, false, false, false] rfl rfl (by kernel_rfl) (by decide) (fun K hK => ?_)
  refine goes_ Try.func29 (by kernel_rfl) rfl #[.pointer (some ⟨zr, 0, none⟩), .int .u64 0, .int .u64 1] (by rfl) rfl rfl (by simp only [List.map_toArray, List.map_cons, List.map_nil]; rfl) ?_
  with_reducible refine (rnum_is zr zB 3 0 1 0 4 numZ.2.2.2.1 (by decide) _ AR13.out).mono ?_
  rintro e w14 ⟨rfl, ha, hk⟩
  refine ⟨_, rfl, ?_⟩
  have AR14 := Lib.hid ha
  have AZ14 := Lib.hid (at_chg AZ13.out hk HR.out.1.1)
  have AE14 := Lib.hid (at_chg AE13.out hk HR.out.1.2.1)
  have AF14 := Lib.hid (at_chg AF13.out hk HR.out.1.2.2)
  have KX14 := Lib.hid (chg_then KX13.out (chg_le hk (fun x e => by rw [e]; exact HR.out.2)))
  clear ha hk AR13 AZ13 AE13 AF13 KX13
  have ee0 : w14.cell? ⟨z4, 0, none⟩ = some (.int .u8 0) := AZ14.out.cell 0
  have ee1 : w14.cell? ⟨z4, 1, none⟩ = some (.int .u8 0) := AZ14.out.cell 1
  have ee2 : w14.cell? ⟨z4, 2, none⟩ = some (.int .u8 0) := AZ14.out.cell 2
  have ee3 : w14.cell? ⟨z4, 3, none⟩ = some (.int .u32 0) := AZ14.out.cell 3
  have ee4 : w14.cell? ⟨z4, 4, none⟩ = some (.int .u8 0) := AZ14.out.cell 4
  have ee5 : w14.cell? ⟨z4, 5, none⟩ = some (.int .u8 0) := AZ14.out.cell 5
  have ee6 : w14.cell? ⟨z4, 6, none⟩ = some (.bool false) := AZ14.out.cell 6
  have ee7 : w14.cell? ⟨z4, 7, none⟩ = some (.slice none 0 0) := AZ14.out.cell 7
  have ee8 : w14.cell? ⟨z4, 8, none⟩ = some (.slice none 0 0) := AZ14.out.cell 8
  have ee9 : w14.cell? ⟨z4, 9, none⟩ = some (.slice none 0 0) := AZ14.out.cell 9
  have ee10 : w14.cell? ⟨z4, 10, none⟩ = some (.slice none 0 0) := AZ14.out.cell 10
  have ee11 : w14.cell? ⟨z4, 11, none⟩ = some (.slice none 0 0) := AZ14.out.cell 11
  have ff0 : w14.frozen? ⟨z4, 0, none⟩ = false := AZ14.out.free 0
  have ff1 : w14.frozen? ⟨z4, 1, none⟩ = false := AZ14.out.free 1
  have ff2 : w14.frozen? ⟨z4, 2, none⟩ = false := AZ14.out.free 2
  have ff3 : w14.frozen? ⟨z4, 3, none⟩ = false := AZ14.out.free 3
  have ff4 : w14.frozen? ⟨z4, 4, none⟩ = false := AZ14.out.free 4
  have ff5 : w14.frozen? ⟨z4, 5, none⟩ = false := AZ14.out.free 5
  have ff6 : w14.frozen? ⟨z4, 6, none⟩ = false := AZ14.out.free 6
  have ff7 : w14.frozen? ⟨z4, 7, none⟩ = false := AZ14.out.free 7
  have ff8 : w14.frozen? ⟨z4, 8, none⟩ = false := AZ14.out.free 8
  have ff9 : w14.frozen? ⟨z4, 9, none⟩ = false := AZ14.out.free 9
  have ff10 : w14.frozen? ⟨z4, 10, none⟩ = false := AZ14.out.free 10
  have ff11 : w14.frozen? ⟨z4, 11, none⟩ = false := AZ14.out.free 11
  refine hK.out _ _ ⟨AF14.out.cell 0, AF14.out.cell 1, AF14.out.cell 2⟩ (fun hHeld => ?_)
  clear hK K
  refine norm_ (a' := ?_) ?_ ?_
  rotate_left
  · show Act.put _ (some 45) _ = _
    simp only [Act.put, List.setIfInBounds_toArray, List.set_cons_zero, List.set_cons_succ, i64_w, i32_w]
    rfl
  refine pure_ (i := 17) (N := some 46) (v := ?_) (a' := ?_) #[true, true, true, true, true, true, true, true, true, true, true, true, true, true, true, true, true, true, false, false] rfl rfl (by kernel_rfl) (by intro _ _ _ h; exact put12 (d := 46) (by decide) (by decide) h) (Or.inl ⟨by rfl, ?_⟩) ?_ ?_
  rotate_left
  · intro w'
    go_simp
    with_reducible rfl
  rotate_left
  · simp only [Act.put, List.setIfInBounds_toArray, List.set_cons_zero, List.set_cons_succ, i64_w, i32_w]
    rfl
  refine pure_ (i := 18) (N := some 47) (v := ?_) (a' := ?_) #[true, true, true, true, true, true, true, true, true, true, true, true, true, true, true, true, true, true, true, false] rfl rfl (by kernel_rfl) (by intro _ _ _ h; exact put12 (d := 47) (by decide) (by decide) h) (Or.inl ⟨by rfl, ?_⟩) ?_ ?_
  rotate_left
  · intro w'
    go_simp
    with_reducible rfl
  rotate_left
  · simp only [Act.put, List.setIfInBounds_toArray, List.set_cons_zero, List.set_cons_succ, i64_w, i32_w]
    rfl
  refine last_ (i := 19) (N := none) #[true, true, true, true, true, true, true, true, true, true, true, true, true, true, true, true, true, true, true, true] rfl rfl (by kernel_rfl) (by decide) (fun K hK => ?_)
  refine skip_ (w1 := ?_) (by rfl) rfl ?_ ?_
  rotate_left
  · go_simp
    rfl
  refine hK.out _ _ ?_
  clear hK K
  refine done_ (by kernel_rfl) ?_
  have AZF := Lib.hid (show At (((((((((((((w14.setCell ⟨z4, 0, none⟩ (.int .u8 1)).setCell ⟨z4, 1, none⟩ (.int .u8 2)).setCell ⟨z4, 2, none⟩ (.int .u8 3)).setCell ⟨z4, 3, none⟩ (.int .u32 (IntKind.u32.wrap 0))).setCell ⟨z4, 4, none⟩ (.int .u8 (IntKind.u8.wrap 0))).setCell ⟨z4, 5, none⟩ (.int .u8 (IntKind.u8.wrap 0))).setCell ⟨z4, 6, none⟩ (.bool false)).setCell ⟨z4, 7, none⟩ (.slice none 0 0)).setCell ⟨z4, 8, none⟩ (.slice none 0 0)).setCell ⟨z4, 9, none⟩ (.slice none 0 0)).setCell ⟨z4, 10, none⟩ (.slice none 0 0)).setCell ⟨z4, 11, none⟩ (.slice none 0 0))) z4 #[.int .u8 1, .int .u8 2, .int .u8 3, .int .u32 0, .int .u8 0, .int .u8 0, .bool false, .slice none 0 0, .slice none 0 0, .slice none 0 0, .slice none 0 0, .slice none 0 0] 29 from at_set12 AZ14.out)
  have AE := Lib.hid (at_set12_ne (v0 := .int .u8 1) (v1 := .int .u8 2) (v2 := .int .u8 3) (v3 := .int .u32 (IntKind.u32.wrap 0)) (v4 := .int .u8 (IntKind.u8.wrap 0)) (v5 := .int .u8 (IntKind.u8.wrap 0)) (v6 := .bool false) (v7 := .slice none 0 0) (v8 := .slice none 0 0) (v9 := .slice none 0 0) (v10 := .slice none 0 0) (v11 := .slice none 0 0) AE14.out (fun e => HZ.out.1.1 e.symm))
  have AR := Lib.hid (at_set12_ne (v0 := .int .u8 1) (v1 := .int .u8 2) (v2 := .int .u8 3) (v3 := .int .u32 (IntKind.u32.wrap 0)) (v4 := .int .u8 (IntKind.u8.wrap 0)) (v5 := .int .u8 (IntKind.u8.wrap 0)) (v6 := .bool false) (v7 := .slice none 0 0) (v8 := .slice none 0 0) (v9 := .slice none 0 0) (v10 := .slice none 0 0) (v11 := .slice none 0 0) AR14.out (fun e => HR.out.1.1 e.symm))
  have KX := Lib.hid (show Chg (fun x => w.heap.size ≤ x) w2 (((((((((((((w14.setCell ⟨z4, 0, none⟩ (.int .u8 1)).setCell ⟨z4, 1, none⟩ (.int .u8 2)).setCell ⟨z4, 2, none⟩ (.int .u8 3)).setCell ⟨z4, 3, none⟩ (.int .u32 (IntKind.u32.wrap 0))).setCell ⟨z4, 4, none⟩ (.int .u8 (IntKind.u8.wrap 0))).setCell ⟨z4, 5, none⟩ (.int .u8 (IntKind.u8.wrap 0))).setCell ⟨z4, 6, none⟩ (.bool false)).setCell ⟨z4, 7, none⟩ (.slice none 0 0)).setCell ⟨z4, 8, none⟩ (.slice none 0 0)).setCell ⟨z4, 9, none⟩ (.slice none 0 0)).setCell ⟨z4, 10, none⟩ (.slice none 0 0)).setCell ⟨z4, 11, none⟩ (.slice none 0 0))) from chg_set12 KX14.out HZ.out.2.1)
  clear AZ14 AE14 AF14 AR14 KX14 ee0 ff0 ee1 ff1 ee2 ff2 ee3 ff3 ee4 ff4 ee5 ff5 ee6 ff6 ee7 ff7 ee8 ff8 ee9 ff9 ee10 ff10 ee11 ff11
  generalize ((((((((((((w14.setCell ⟨z4, 0, none⟩ (.int .u8 1)).setCell ⟨z4, 1, none⟩ (.int .u8 2)).setCell ⟨z4, 2, none⟩ (.int .u8 3)).setCell ⟨z4, 3, none⟩ (.int .u32 (IntKind.u32.wrap 0))).setCell ⟨z4, 4, none⟩ (.int .u8 (IntKind.u8.wrap 0))).setCell ⟨z4, 5, none⟩ (.int .u8 (IntKind.u8.wrap 0))).setCell ⟨z4, 6, none⟩ (.bool false)).setCell ⟨z4, 7, none⟩ (.slice none 0 0)).setCell ⟨z4, 8, none⟩ (.slice none 0 0)).setCell ⟨z4, 9, none⟩ (.slice none 0 0)).setCell ⟨z4, 10, none⟩ (.slice none 0 0)).setCell ⟨z4, 11, none⟩ (.slice none 0 0)) = w15 at *
  go_upto_region 10 with (go_at_call 30; (with_reducible refine (list0_72 zr zB 4 5 _ numZ.2.2.2.2.1 (by decide) _ AR.out).mono ?_); rintro e w16 ⟨rfl, ha, hk⟩; have AR1 := Lib.hid ha; have AZ1 := Lib.hid (at_chg AZF.out hk HR.out.1.1); have AE1 := Lib.hid (at_chg AE.out hk HR.out.1.2.1); have KX1 := Lib.hid (chg_then KX.out (chg_le hk (fun x e => by rw [e]; exact HR.out.2))); clear ha hk AR AZF AE KX; have eg : w16.cell? ⟨z4, 7, none⟩ = some (.slice none 0 0) := AZ1.out.cell 7; have fg : w16.frozen? ⟨z4, 7, none⟩ = false := AZ1.out.free 7)
  have AZ := Lib.hid (show At (w16.setCell ⟨z4, 7, none⟩ (.slice none 0 0)) z4 #[.int .u8 1, .int .u8 2, .int .u8 3, .int .u32 0, .int .u8 0, .int .u8 0, .bool false, .slice none 0 0, .slice none 0 0, .slice none 0 0, .slice none 0 0, .slice none 0 0] 29 from at_set' AZ1.out rfl)
  have AE := Lib.hid (at_set_ne (b' := z4) (i := 7) (v := .slice none 0 0) AE1.out (fun e => HZ.out.1.1 e.symm))
  have AR := Lib.hid (at_set_ne (b' := z4) (i := 7) (v := .slice none 0 0) AR1.out (fun e => HR.out.1.1 e.symm))
  have KX := Lib.hid (chg_set (b := z4) (i := 7) (v := .slice none 0 0) KX1.out HZ.out.2.1)
  clear AZ1 AE1 AR1 KX1 eg fg
  generalize w16.setCell ⟨z4, 7, none⟩ (.slice none 0 0) = v16 at *
  go_upto_region 11 with (go_at_call 32; (with_reducible refine (list0_S zr zB 5 6 _ numZ.2.2.2.2.2.1 (by decide) _ AR.out).mono ?_); rintro e w17 ⟨rfl, ha, hk⟩; have AR1 := Lib.hid ha; have AZ1 := Lib.hid (at_chg AZ.out hk HR.out.1.1); have AE1 := Lib.hid (at_chg AE.out hk HR.out.1.2.1); have KX1 := Lib.hid (chg_then KX.out (chg_le hk (fun x e => by rw [e]; exact HR.out.2))); clear ha hk AR AZ AE KX; have eg : w17.cell? ⟨z4, 8, none⟩ = some (.slice none 0 0) := AZ1.out.cell 8; have fg : w17.frozen? ⟨z4, 8, none⟩ = false := AZ1.out.free 8)
  have AZ := Lib.hid (show At (w17.setCell ⟨z4, 8, none⟩ (.slice none 0 0)) z4 #[.int .u8 1, .int .u8 2, .int .u8 3, .int .u32 0, .int .u8 0, .int .u8 0, .bool false, .slice none 0 0, .slice none 0 0, .slice none 0 0, .slice none 0 0, .slice none 0 0] 29 from at_set' AZ1.out rfl)
  have AE := Lib.hid (at_set_ne (b' := z4) (i := 8) (v := .slice none 0 0) AE1.out (fun e => HZ.out.1.1 e.symm))
  have AR := Lib.hid (at_set_ne (b' := z4) (i := 8) (v := .slice none 0 0) AR1.out (fun e => HR.out.1.1 e.symm))
  have KX := Lib.hid (chg_set (b := z4) (i := 8) (v := .slice none 0 0) KX1.out HZ.out.2.1)
  clear AZ1 AE1 AR1 KX1 eg fg
  generalize w17.setCell ⟨z4, 8, none⟩ (.slice none 0 0) = v17 at *
  go_upto_region 12 with (go_at_call 34; (with_reducible refine (list0_54 zr zB 6 7 _ numZ.2.2.2.2.2.2.1 (by decide) _ AR.out).mono ?_); rintro e w18 ⟨rfl, ha, hk⟩; have AR1 := Lib.hid ha; have AZ1 := Lib.hid (at_chg AZ.out hk HR.out.1.1); have AE1 := Lib.hid (at_chg AE.out hk HR.out.1.2.1); have KX1 := Lib.hid (chg_then KX.out (chg_le hk (fun x e => by rw [e]; exact HR.out.2))); clear ha hk AR AZ AE KX; have eg : w18.cell? ⟨z4, 9, none⟩ = some (.slice none 0 0) := AZ1.out.cell 9; have fg : w18.frozen? ⟨z4, 9, none⟩ = false := AZ1.out.free 9)
  have AZ := Lib.hid (show At (w18.setCell ⟨z4, 9, none⟩ (.slice none 0 0)) z4 #[.int .u8 1, .int .u8 2, .int .u8 3, .int .u32 0, .int .u8 0, .int .u8 0, .bool false, .slice none 0 0, .slice none 0 0, .slice none 0 0, .slice none 0 0, .slice none 0 0] 29 from at_set' AZ1.out rfl)
  have AE := Lib.hid (at_set_ne (b' := z4) (i := 9) (v := .slice none 0 0) AE1.out (fun e => HZ.out.1.1 e.symm))
  have AR := Lib.hid (at_set_ne (b' := z4) (i := 9) (v := .slice none 0 0) AR1.out (fun e => HR.out.1.1 e.symm))
  have KX := Lib.hid (chg_set (b := z4) (i := 9) (v := .slice none 0 0) KX1.out HZ.out.2.1)
  clear AZ1 AE1 AR1 KX1 eg fg
  generalize w18.setCell ⟨z4, 9, none⟩ (.slice none 0 0) = v18 at *
  go_upto_region 13 with (go_at_call 36; (with_reducible refine (list0_56 zr zB 7 8 _ numZ.2.2.2.2.2.2.2.1 (by decide) _ AR.out).mono ?_); rintro e w19 ⟨rfl, ha, hk⟩; have AR1 := Lib.hid ha; have AZ1 := Lib.hid (at_chg AZ.out hk HR.out.1.1); have AE1 := Lib.hid (at_chg AE.out hk HR.out.1.2.1); have KX1 := Lib.hid (chg_then KX.out (chg_le hk (fun x e => by rw [e]; exact HR.out.2))); clear ha hk AR AZ AE KX; have eg : w19.cell? ⟨z4, 10, none⟩ = some (.slice none 0 0) := AZ1.out.cell 10; have fg : w19.frozen? ⟨z4, 10, none⟩ = false := AZ1.out.free 10)
  have AZ := Lib.hid (show At (w19.setCell ⟨z4, 10, none⟩ (.slice none 0 0)) z4 #[.int .u8 1, .int .u8 2, .int .u8 3, .int .u32 0, .int .u8 0, .int .u8 0, .bool false, .slice none 0 0, .slice none 0 0, .slice none 0 0, .slice none 0 0, .slice none 0 0] 29 from at_set' AZ1.out rfl)
  have AE := Lib.hid (at_set_ne (b' := z4) (i := 10) (v := .slice none 0 0) AE1.out (fun e => HZ.out.1.1 e.symm))
  have AR := Lib.hid (at_set_ne (b' := z4) (i := 10) (v := .slice none 0 0) AR1.out (fun e => HR.out.1.1 e.symm))
  have KX := Lib.hid (chg_set (b := z4) (i := 10) (v := .slice none 0 0) KX1.out HZ.out.2.1)
  clear AZ1 AE1 AR1 KX1 eg fg
  generalize w19.setCell ⟨z4, 10, none⟩ (.slice none 0 0) = v19 at *
  go_upto_region 14 with (go_at_call 38; (with_reducible refine (list0_D zr zB 8 9 _ numZ.2.2.2.2.2.2.2.2 (by decide) _ AR.out).mono ?_); rintro e w20 ⟨rfl, ha, hk⟩; have AR1 := Lib.hid ha; have AZ1 := Lib.hid (at_chg AZ.out hk HR.out.1.1); have AE1 := Lib.hid (at_chg AE.out hk HR.out.1.2.1); have KX1 := Lib.hid (chg_then KX.out (chg_le hk (fun x e => by rw [e]; exact HR.out.2))); clear ha hk AR AZ AE KX; have eg : w20.cell? ⟨z4, 11, none⟩ = some (.slice none 0 0) := AZ1.out.cell 11; have fg : w20.frozen? ⟨z4, 11, none⟩ = false := AZ1.out.free 11)
  have AZ := Lib.hid (show At (w20.setCell ⟨z4, 11, none⟩ (.slice none 0 0)) z4 #[.int .u8 1, .int .u8 2, .int .u8 3, .int .u32 0, .int .u8 0, .int .u8 0, .bool false, .slice none 0 0, .slice none 0 0, .slice none 0 0, .slice none 0 0, .slice none 0 0] 29 from at_set' AZ1.out rfl)
  have AE := Lib.hid (at_set_ne (b' := z4) (i := 11) (v := .slice none 0 0) AE1.out (fun e => HZ.out.1.1 e.symm))
  have AR := Lib.hid (at_set_ne (b' := z4) (i := 11) (v := .slice none 0 0) AR1.out (fun e => HR.out.1.1 e.symm))
  have KX := Lib.hid (chg_set (b := z4) (i := 11) (v := .slice none 0 0) KX1.out HZ.out.2.1)
  clear AZ1 AE1 AR1 KX1 eg fg
  generalize w20.setCell ⟨z4, 11, none⟩ (.slice none 0 0) = v20 at *
  refine start_ (n := 10) (S := fun w' => w'.cell? ⟨zr, 0, none⟩ = some (.string zB) ∧ w'.cell? ⟨zr, 1, none⟩ = some (.int .i64 9)) (ds := []) #[false, false, false, false, false, false, false, false, false, false] (by kernel_rfl) rfl rfl ⟨AR.out.cell 0, AR.out.cell 1⟩ (fun hHeld => ?_)
  replace AR := Lib.hid (at_drew AR.out)
  replace AZ := Lib.hid (at_drew AZ.out)
  replace AE := Lib.hid (at_drew AE.out)
  replace KX := Lib.hid (chg_drew KX.out)
  generalize v20.drew = v21 at AR AZ AE KX hHeld ⊢
  refine pure_ (i := 0) (N := some 73) (v := ?_) (a' := ?_) #[true, false, false, false, false, false, false, false, false, false] rfl rfl (by kernel_rfl) (by intro _ _ _ h; exact put12 (d := 73) (by decide) (by decide) h) (Or.inl ⟨by rfl, ?_⟩) ?_ ?_
  rotate_left
  · intro w'
    go_simp
    with_reducible rfl
  rotate_left
  · simp only [Act.put, List.setIfInBounds_toArray, List.set_cons_zero, List.set_cons_succ, i64_w, i32_w]
    rfl
  refine pure_ (i := 1) (N := some 74) (v := ?_) (a' := ?_) #[true, true, false, false, false, false, false, false, false, false] rfl rfl (by kernel_rfl) (by intro _ _ _ h; exact put12 (d := 74) (by decide) (by decide) h) (Or.inl ⟨by rfl, ?_⟩) ?_ ?_
  rotate_left
  · intro w'
    go_simp
    with_reducible rfl
  rotate_left
  · simp only [Act.put, List.setIfInBounds_toArray, List.set_cons_zero, List.set_cons_succ, i64_w, i32_w]
    rfl
  refine pure_ (i := 2) (N := some 75) (v := ?_) (a' := ?_) #[true, true, true, false, false, false, false, false, false, false] rfl rfl (by kernel_rfl) (by intro _ _ _ h; exact put12 (d := 75) (by decide) (by decide) h) (Or.inl ⟨by rfl, ?_⟩) ?_ ?_
  rotate_left
  · intro w'
    go_simp
    with_reducible rfl
  rotate_left
  · simp only [Act.put, List.setIfInBounds_toArray, List.set_cons_zero, List.set_cons_succ, i64_w, i32_w]
    rfl
  refine pure_ (i := 4) (N := some 77) (v := ?_) (a' := ?_) #[true, true, true, false, true, false, false, false, false, false] rfl rfl (by kernel_rfl) (by intro _ _ _ h; exact put12 (d := 77) (by decide) (by decide) h) (Or.inl ⟨by rfl, ?_⟩) ?_ ?_
  rotate_left
  · intro w'
    go_simp
    with_reducible rfl
  rotate_left
  · simp only [Act.put, List.setIfInBounds_toArray, List.set_cons_zero, List.set_cons_succ, i64_w, i32_w]
    rfl
  refine pure_ (i := 5) (N := some 78) (v := ?_) (a' := ?_) #[true, true, true, false, true, true, false, false, false, false] rfl rfl (by kernel_rfl) (by intro _ _ _ h; exact put12 (d := 78) (by decide) (by decide) h) (Or.inl ⟨by rfl, ?_⟩) ?_ ?_
  rotate_left
  · intro w'
    go_simp
    with_reducible rfl
  rotate_left
  · simp only [Act.put, List.setIfInBounds_toArray, List.set_cons_zero, List.set_cons_succ, i64_w, i32_w]
    rfl
  refine pure_ (i := 6) (N := some 79) (v := ?_) (a' := ?_) #[true, true, true, false, true, true, true, false, false, false] rfl rfl (by kernel_rfl) (by intro _ _ _ h; exact put12 (d := 79) (by decide) (by decide) h) (Or.inl ⟨by rfl, ?_⟩) ?_ ?_
  rotate_left
  · intro w'
    go_simp
    with_reducible rfl
  rotate_left
  · simp only [Act.put, List.setIfInBounds_toArray, List.set_cons_zero, List.set_cons_succ, i64_w, i32_w]
    rfl
  refine take_ (i := 3) (N := some 76) (v := ?_) (a' := ?_) #[true, true, true, true, true, true, true, false, false, false] rfl rfl (by kernel_rfl) (by intro _ _ _ h; exact put12 (d := 76) (by decide) (by decide) h) (Or.inl ⟨by rfl, ?_⟩) hHeld ?_ ?_
  rotate_left
  · rintro w' ⟨s0, s1⟩
    go_simp
    with_reducible rfl
  rotate_left
  · simp only [Act.put, List.setIfInBounds_toArray, List.set_cons_zero, List.set_cons_succ, i64_w, i32_w]
    rfl
  refine take_ (i := 7) (N := some 80) (v := ?_) (a' := ?_) #[true, true, true, true, true, true, true, true, false, false] rfl rfl (by kernel_rfl) (by intro _ _ _ h; exact put12 (d := 80) (by decide) (by decide) h) (Or.inl ⟨by rfl, ?_⟩) hHeld ?_ ?_
  rotate_left
  · rintro w' ⟨s0, s1⟩
    go_simp
    with_reducible rfl
  rotate_left
  · simp only [Act.put, List.setIfInBounds_toArray, List.set_cons_zero, List.set_cons_succ, i64_w, i32_w]
    rfl
  refine pure_ (i := 8) (N := some 81) (v := ?_) (a' := ?_) #[true, true, true, true, true, true, true, true, true, false] rfl rfl (by kernel_rfl) (by intro _ _ _ h; exact put12 (d := 81) (by decide) (by decide) h) (Or.inl ⟨by rfl, ?_⟩) ?_ ?_
  rotate_left
  · intro w'
    go_simp
    with_reducible rfl
  rotate_left
  · simp only [Act.put, List.setIfInBounds_toArray, List.set_cons_zero, List.set_cons_succ, i64_w, i32_w]
    rfl
  refine pure_ (i := 9) (N := some 82) (v := ?_) (a' := ?_) #[true, true, true, true, true, true, true, true, true, true] rfl rfl (by kernel_rfl) (by intro _ _ _ h; exact put12 (d := 82) (by decide) (by decide) h) (Or.inl ⟨by rfl, ?_⟩) ?_ ?_
  rotate_left
  · intro w'
    go_simp
    with_reducible rfl
  rotate_left
  · simp only [Act.put, List.setIfInBounds_toArray, List.set_cons_zero, List.set_cons_succ, i64_w, i32_w]
    rfl
  refine done_ (by kernel_rfl) ?_
  have eh0 : v21.cell? ⟨z4, 0, none⟩ = some (.int .u8 1) := AZ.out.cell 0
  have fh0 : v21.frozen? ⟨z4, 0, none⟩ = false := AZ.out.free 0
  have eh1 : v21.cell? ⟨z4, 1, none⟩ = some (.int .u8 2) := AZ.out.cell 1
  have fh1 : v21.frozen? ⟨z4, 1, none⟩ = false := AZ.out.free 1
  have eh2 : v21.cell? ⟨z4, 2, none⟩ = some (.int .u8 3) := AZ.out.cell 2
  have fh2 : v21.frozen? ⟨z4, 2, none⟩ = false := AZ.out.free 2
  have eh3 : v21.cell? ⟨z4, 3, none⟩ = some (.int .u32 0) := AZ.out.cell 3
  have fh3 : v21.frozen? ⟨z4, 3, none⟩ = false := AZ.out.free 3
  have eh4 : v21.cell? ⟨z4, 4, none⟩ = some (.int .u8 0) := AZ.out.cell 4
  have fh4 : v21.frozen? ⟨z4, 4, none⟩ = false := AZ.out.free 4
  have eh5 : v21.cell? ⟨z4, 5, none⟩ = some (.int .u8 0) := AZ.out.cell 5
  have fh5 : v21.frozen? ⟨z4, 5, none⟩ = false := AZ.out.free 5
  have eh6 : v21.cell? ⟨z4, 6, none⟩ = some (.bool false) := AZ.out.cell 6
  have fh6 : v21.frozen? ⟨z4, 6, none⟩ = false := AZ.out.free 6
  have eh7 : v21.cell? ⟨z4, 7, none⟩ = some (.slice none 0 0) := AZ.out.cell 7
  have fh7 : v21.frozen? ⟨z4, 7, none⟩ = false := AZ.out.free 7
  have eh8 : v21.cell? ⟨z4, 8, none⟩ = some (.slice none 0 0) := AZ.out.cell 8
  have fh8 : v21.frozen? ⟨z4, 8, none⟩ = false := AZ.out.free 8
  have eh9 : v21.cell? ⟨z4, 9, none⟩ = some (.slice none 0 0) := AZ.out.cell 9
  have fh9 : v21.frozen? ⟨z4, 9, none⟩ = false := AZ.out.free 9
  have eh10 : v21.cell? ⟨z4, 10, none⟩ = some (.slice none 0 0) := AZ.out.cell 10
  have fh10 : v21.frozen? ⟨z4, 10, none⟩ = false := AZ.out.free 10
  have eh11 : v21.cell? ⟨z4, 11, none⟩ = some (.slice none 0 0) := AZ.out.cell 11
  have fh11 : v21.frozen? ⟨z4, 11, none⟩ = false := AZ.out.free 11
  have ei : v21.cell? ⟨z5, 0, none⟩ = some (.int .i64 0) := AE.out.cell 0
  have fi : v21.frozen? ⟨z5, 0, none⟩ = false := AE.out.free 0
  have hzs : (9 != ((zB.size : Nat) : Int)) = false := rfl
  go_upto_region 16 with (fail)
  apply wp_region
  show wpOps _ _ _ [0, 1, 2] _ _
  refine step_ (i := 0) rfl ?_
  refine value_ (N := some 84) (w1 := ?_) (v := ?_) (by rfl) rfl ?_ ?_
  rotate_left 2
  · go_simp
    constructor
    · rfl
    · rfl
  simp only [Act.put, List.setIfInBounds_toArray, List.set_cons_zero, List.set_cons_succ]
  refine step_ (i := 1) rfl ?_
  refine skip_ (w1 := ?_) (by rfl) rfl ?_ ?_
  rotate_left
  · go_simp
    rfl
  have AZ2 := Lib.hid (show At (((((((((((((v21.setCell ⟨z4, 0, none⟩ (.int .u8 1)).setCell ⟨z4, 1, none⟩ (.int .u8 2)).setCell ⟨z4, 2, none⟩ (.int .u8 3)).setCell ⟨z4, 3, none⟩ (.int .u32 0)).setCell ⟨z4, 4, none⟩ (.int .u8 0)).setCell ⟨z4, 5, none⟩ (.int .u8 0)).setCell ⟨z4, 6, none⟩ (.bool false)).setCell ⟨z4, 7, none⟩ (.slice none 0 0)).setCell ⟨z4, 8, none⟩ (.slice none 0 0)).setCell ⟨z4, 9, none⟩ (.slice none 0 0)).setCell ⟨z4, 10, none⟩ (.slice none 0 0)).setCell ⟨z4, 11, none⟩ (.slice none 0 0))) z4 #[.int .u8 1, .int .u8 2, .int .u8 3, .int .u32 0, .int .u8 0, .int .u8 0, .bool false, .slice none 0 0, .slice none 0 0, .slice none 0 0, .slice none 0 0, .slice none 0 0] 29 from at_set12 AZ.out)
  have AE2 := Lib.hid (show At (((((((((((((v21.setCell ⟨z4, 0, none⟩ (.int .u8 1)).setCell ⟨z4, 1, none⟩ (.int .u8 2)).setCell ⟨z4, 2, none⟩ (.int .u8 3)).setCell ⟨z4, 3, none⟩ (.int .u32 0)).setCell ⟨z4, 4, none⟩ (.int .u8 0)).setCell ⟨z4, 5, none⟩ (.int .u8 0)).setCell ⟨z4, 6, none⟩ (.bool false)).setCell ⟨z4, 7, none⟩ (.slice none 0 0)).setCell ⟨z4, 8, none⟩ (.slice none 0 0)).setCell ⟨z4, 9, none⟩ (.slice none 0 0)).setCell ⟨z4, 10, none⟩ (.slice none 0 0)).setCell ⟨z4, 11, none⟩ (.slice none 0 0))) z5 #[.int .i64 0] 32 from at_set12_ne AE.out (fun e => HZ.out.1.1 e.symm))
  have KX2 := Lib.hid (show Chg (fun x => w.heap.size ≤ x) w2 (((((((((((((v21.setCell ⟨z4, 0, none⟩ (.int .u8 1)).setCell ⟨z4, 1, none⟩ (.int .u8 2)).setCell ⟨z4, 2, none⟩ (.int .u8 3)).setCell ⟨z4, 3, none⟩ (.int .u32 0)).setCell ⟨z4, 4, none⟩ (.int .u8 0)).setCell ⟨z4, 5, none⟩ (.int .u8 0)).setCell ⟨z4, 6, none⟩ (.bool false)).setCell ⟨z4, 7, none⟩ (.slice none 0 0)).setCell ⟨z4, 8, none⟩ (.slice none 0 0)).setCell ⟨z4, 9, none⟩ (.slice none 0 0)).setCell ⟨z4, 10, none⟩ (.slice none 0 0)).setCell ⟨z4, 11, none⟩ (.slice none 0 0))) from chg_set12 KX.out HZ.out.2.1)
  clear AZ AE AR KX hHeld ei fi eh0 fh0 eh1 fh1 eh2 fh2 eh3 fh3 eh4 fh4 eh5 fh5 eh6 fh6 eh7 fh7 eh8 fh8 eh9 fh9 eh10 fh10 eh11 fh11
  generalize ((((((((((((v21.setCell ⟨z4, 0, none⟩ (.int .u8 1)).setCell ⟨z4, 1, none⟩ (.int .u8 2)).setCell ⟨z4, 2, none⟩ (.int .u8 3)).setCell ⟨z4, 3, none⟩ (.int .u32 0)).setCell ⟨z4, 4, none⟩ (.int .u8 0)).setCell ⟨z4, 5, none⟩ (.int .u8 0)).setCell ⟨z4, 6, none⟩ (.bool false)).setCell ⟨z4, 7, none⟩ (.slice none 0 0)).setCell ⟨z4, 8, none⟩ (.slice none 0 0)).setCell ⟨z4, 9, none⟩ (.slice none 0 0)).setCell ⟨z4, 10, none⟩ (.slice none 0 0)).setCell ⟨z4, 11, none⟩ (.slice none 0 0)) = w23 at *
  have ei : w23.cell? ⟨z5, 0, none⟩ = some (.int .i64 0) := AE2.out.cell 0
  have fi : w23.frozen? ⟨z5, 0, none⟩ = false := AE2.out.free 0
  refine step_ (i := 2) rfl ?_
  refine skip_ (w1 := ?_) (by rfl) rfl ?_ ?_
  rotate_left
  · go_simp
    rfl
  have AZ := Lib.hid (at_set_ne (b' := z5) (i := 0) (v := .int .i64 0) AZ2.out HZ.out.1.1)
  have AE := Lib.hid (show At (w23.setCell ⟨z5, 0, none⟩ (.int .i64 0)) z5 #[.int .i64 0] 32 from at_set' AE2.out rfl)
  have KX := Lib.hid (chg_set (b := z5) (i := 0) (v := .int .i64 0) KX2.out HZ.out.2.2)
  clear AZ2 AE2 KX2 ei fi
  generalize w23.setCell ⟨z5, 0, none⟩ (.int .i64 0) = w24 at *
  rw [wpOps]
  go_wp2_with (fail)
  refine leaves_cons (f := 28) (args := #[.pointer (some ⟨z4, 0, none⟩), .pointer (some ⟨z5, 0, none⟩)]) (by simp) (by simp [go_sem]) ?_
  refine (catch_idle z4 z5 _).mono ?_
  rintro e u' w'' ⟨rfl, rfl, rfl⟩
  refine ⟨_, results_un _ z4 z5 _ _ _ _ _ _ _ _ _ _ _ _ _ _ rfl rfl AZ.out AE.out, rfl, ?_, ?_⟩
  · exact is_chgS HT2.out KX.out (by have := HTL.out; omega)
  · exact ⟨KX.out.os.trans HK2.out.os, KX.out.tape.trans HK2.out.tape, KX.out.output.trans HK2.out.output, Nat.le_trans HK2.out.size KX.out.size, fun i hi hn => (KX.out.block i (Nat.lt_of_lt_of_le hi HK2.out.size) (Nat.not_le.2 hi)).trans (HK2.out.block i hi hn)⟩
end Go.Proofs.Ytdjompbhlkgmbaa.Msg
end
section
/- A message's body, part by part (own text). -/
namespace Go.Proofs.Ytdjompbhlkgmbaa.Msg
open Go.RowKit Go.Proofs.Ytdjompbhlkgmbaa.PMsg
open Go.Proofs.Ytdjompbhlkgmbaa.Num (putB putE textB)
set_option linter.unusedVariables false
def recS (x : S54) : ByteArray := if Rec.mayR x.f0 x.f1.f0 x.f1.f2 x.f2 x.f3 x.f4 x.f5 = true then Rec.recB x.f0 x.f1.f0 x.f1.f1 x.f1.f2 x.f2 x.f3 x.f4 x.f5 else ⟨#[]⟩
def newsI (x : S72) : List UInt8 := numsL [x.f0, x.f1.f0, x.f1.f1]
def keysI (x : ByteArray) : List UInt8 := (textB x).data.toList
def recsI (x : S54) : List UInt8 := (recS x).data.toList
def seenI (x : S56) : List UInt8 := (textB x.f0).data.toList ++ numsL [x.f1.f0, x.f1.f1, x.f1.f2, x.f2]
def digsI (x : Int) : List UInt8 := numsL [x / 4294967296, x % 4294967296]
def flagN (b : Bool) : Int := if b = true then 1 else 0
def headL (m : M) : List UInt8 := numsL [m.id, m.tg, m.rg, flagN m.flag, (m.news.length : Int)]
def bodyL (m : M) : List UInt8 :=
  ((((((((headL m ++ m.news.flatMap newsI) ++ numsL [(m.keys.length : Int)]) ++ m.keys.flatMap keysI) ++ numsL [(m.recs.length : Int)]) ++ m.recs.flatMap recsI) ++ numsL [(m.seen.length : Int)]) ++ m.seen.flatMap seenI) ++ numsL [(m.digs.length : Int)]) ++ m.digs.flatMap digsI
def bodyB (m : M) : ByteArray := ⟨(bodyL m).toArray⟩
theorem flat_snoc {α : Type} (f : α → List UInt8) (l : List α) (i : Nat) (h : i < l.length) : (l.take (i + 1)).flatMap f = (l.take i).flatMap f ++ f l[i] := by
  rw [List.take_succ_eq_append_getElem h, List.flatMap_append]
  simp
theorem flat_take_len {α : Type} (f : α → List UInt8) (l : List α) (i : Nat) : ((l.take i).flatMap f).length ≤ (l.flatMap f).length := by
  have h : l.flatMap f = (l.take i).flatMap f ++ (l.drop i).flatMap f := by rw [← List.flatMap_append, List.take_append_drop]
  rw [h, List.length_append]
  omega
theorem flat_len {α : Type} (f : α → List UInt8) (g : α → Nat) (k : Nat) (l : List α) (h : ∀ x, x ∈ l → (f x).length ≤ g x + k) : (l.flatMap f).length ≤ (l.map g).sum + k * l.length := by
  induction l with
  | nil => simp
  | cons x l ih =>
    have h1 := h x (List.mem_cons_self ..)
    have h2 := ih (fun y hy => h y (List.mem_cons_of_mem _ hy))
    simp only [List.flatMap_cons, List.length_append, List.map_cons, List.sum_cons, List.length_cons, Nat.mul_add, Nat.mul_one]
    omega
theorem sum_zero {α : Type} (l : List α) : (l.map fun _ => 0).sum = 0 := by
  induction l with
  | nil => rfl
  | cons x l ih => rw [List.map_cons, List.sum_cons, ih]
theorem size_len (s : ByteArray) : s.data.toList.length = s.size := by simp
theorem newsI_len (x : S72) : (newsI x).length ≤ 24 := numsL_len [x.f0, x.f1.f0, x.f1.f1]
theorem keysI_len (x : ByteArray) : (keysI x).length ≤ x.size + 8 := by
  unfold keysI
  rw [size_len]
  have := Rec.textB_size x
  omega
theorem accB_size (k : ByteArray) (v : Nat → Int) (j : Nat) : (Rec.accB k v j).size ≤ k.size + 8 + 8 * j := by
  induction j with
  | zero =>
    have := Rec.textB_size k
    show (textB k).size ≤ _
    omega
  | succ j ih =>
    show (Rec.accB k v j ++ putB (v j)).size ≤ _
    have := putB_size (v j)
    rw [ByteArray.size_append]
    omega
theorem recS_size (x : S54) : (recS x).size ≤ x.f0.size + x.f5.size + 64 := by
  unfold recS
  split
  · unfold Rec.recB
    split
    · rw [ByteArray.size_append]
      have h1 := accB_size x.f0 (Rec.lV x.f1.f0 x.f1.f1 x.f1.f2 x.f2 x.f3 x.f4) 6
      have h2 := Rec.textB_size x.f5
      omega
    · have h1 := accB_size x.f0 (Rec.lV x.f1.f0 x.f1.f1 x.f1.f2 x.f2 x.f3 x.f4) 4
      omega
  · exact Nat.zero_le _
theorem recsI_len (x : S54) : (recsI x).length ≤ x.f0.size + x.f5.size + 64 := by
  unfold recsI
  rw [size_len]
  exact recS_size x
theorem seenI_len (x : S56) : (seenI x).length ≤ x.f0.size + 40 := by
  unfold seenI
  rw [List.length_append, size_len]
  have h1 := Rec.textB_size x.f0
  have h2 := numsL_len [x.f1.f0, x.f1.f1, x.f1.f2, x.f2]
  simp only [List.length_cons, List.length_nil] at h2
  omega
theorem digsI_len (x : Int) : (digsI x).length ≤ 16 := numsL_len [x / 4294967296, x % 4294967296]
theorem news_len {m : M} (h : SmM m) : (m.news.flatMap newsI).length ≤ 120000 := by
  have h1 := flat_len newsI (fun _ => 0) 24 m.news (fun x _ => by have := newsI_len x; omega)
  have h2 := h.n1
  rw [sum_zero] at h1
  omega
theorem keys_len {m : M} (h : SmM m) : (m.keys.flatMap keysI).length ≤ 49000 := by
  have h1 := flat_len keysI (fun x => x.size) 8 m.keys (fun x _ => keysI_len x)
  have h2 := h.n2
  have h3 := h.zk
  omega
theorem recs_len {m : M} (h : SmM m) : (m.recs.flatMap recsI).length ≤ 329000 := by
  have h1 := flat_len recsI (fun x => x.f0.size + x.f5.size) 64 m.recs (fun x _ => recsI_len x)
  have h2 := h.n3
  have h3 := h.zr
  omega
theorem seen_len {m : M} (h : SmM m) : (m.seen.flatMap seenI).length ≤ 209000 := by
  have h1 := flat_len seenI (fun x => x.f0.size) 40 m.seen (fun x _ => seenI_len x)
  have h2 := h.n4
  have h3 := h.zs
  omega
theorem digs_len {m : M} (h : SmM m) : (m.digs.flatMap digsI).length ≤ 80000 := by
  have h1 := flat_len digsI (fun _ => 0) 16 m.digs (fun x _ => by have := digsI_len x; omega)
  have h2 := h.n5
  rw [sum_zero] at h1
  omega
theorem head_len (m : M) : (headL m).length ≤ 40 := numsL_len [m.id, m.tg, m.rg, flagN m.flag, (m.news.length : Int)]
theorem num1_len (n : Int) : (numsL [n]).length ≤ 8 := numsL_len [n]
theorem body_len {m : M} (h : SmM m) : (bodyL m).length ≤ 900000 := by
  have h1 := news_len h
  have h2 := keys_len h
  have h3 := recs_len h
  have h4 := seen_len h
  have h5 := digs_len h
  have h0 := head_len m
  have k2 := num1_len m.keys.length
  have k3 := num1_len m.recs.length
  have k4 := num1_len m.seen.length
  have k5 := num1_len m.digs.length
  unfold bodyL
  simp only [List.length_append]
  omega
end Go.Proofs.Ytdjompbhlkgmbaa.Msg
end
section
/- The frame that Pack makes (own text). -/
namespace Go.Proofs.Ytdjompbhlkgmbaa.Frame
open Go.Proofs.Ytdjompbhlkgmbaa Go.RowKit Go.Proofs.Ytdjompbhlkgmbaa.Mem Go.Proofs.Ytdjompbhlkgmbaa.Sum
set_option linter.unusedVariables false
set_option linter.unusedSimpArgs false
theorem penc (c tb k f t : Nat) (b : ByteArray) (w : World) (hc : Cod w c tb) (hk : k < 256) (hf : f < 256) (ht : t < 256) (hb : b.size ≤ 999000) :
    Calls Try.prog 23 #[.pointer (some ⟨c, 0, none⟩), .agg #[.int .u8 (k : Int), .int .u8 (f : Int), .int .u8 (t : Int), .string b]] w fun e w' => e = .returned (.tuple #[.string (encS k f t b), .int .i64 (encE k f t b)]) ∧ IsTab w' tb ∧ Chg (fun x => x = tb) w w' := by
  cases hm : mayF k f t
  · exact enc_no c tb k f t b w hc hk hf ht hb hm
  · exact enc_yes c tb k f t b w hc hk hf ht hb hm
end Go.Proofs.Ytdjompbhlkgmbaa.Frame
namespace Go.Proofs.Ytdjompbhlkgmbaa.Msg
open Go.RowKit Go.Proofs.Ytdjompbhlkgmbaa.Mem Go.Proofs.Ytdjompbhlkgmbaa.PMsg
set_option linter.unusedVariables false
theorem body_size (m : M) : (bodyB m).size = (bodyL m).length := by
  show (bodyL m).toArray.size = _
  rw [List.size_toArray]
theorem packEnc (m : M) (b c tb : Nat) (w : World) (h : MCod w b c tb) (hs : SmM m) : Calls Try.prog 23 #[.pointer (some ⟨c, 0, none⟩), .agg #[.int .u8 m.kind, .int .u8 m.fr, .int .u8 m.dst, .string (bodyB m)]] w fun e w' => e = .returned (.tuple #[.string (Frame.encS m.kind.toNat m.fr.toNat m.dst.toNat (bodyB m)), .int .i64 (Frame.encE m.kind.toNat m.fr.toNat m.dst.toNat (bodyB m))]) ∧ Sum.IsTab w' tb ∧ Chg (fun x => x = tb) w w' := by
  have h1 := hs.kind
  have h2 := hs.fr
  have h3 := hs.dst
  unfold isB at h1 h2 h3
  have hb := body_len hs
  have := Frame.penc c tb m.kind.toNat m.fr.toNat m.dst.toNat (bodyB m) w h.c (by omega) (by omega) (by omega) (by rw [body_size]; omega)
  rw [Int.toNat_of_nonneg h1.1, Int.toNat_of_nonneg h2.1, Int.toNat_of_nonneg h3.1] at this
  exact this
theorem dig_and (x : Int) (h0 : 0 ≤ x) (h1 : x ≤ 18446744073709551615) : Go.bits .and .u64 x 4294967295 = x % 4294967296 := by
  have h := bits_and_u64_nat x.toNat 4294967295 (by omega) (by omega)
  rw [Int.toNat_of_nonneg h0, show ((4294967295 : Nat) : Int) = 4294967295 from rfl] at h
  rw [h, show (4294967295 : Nat) = 2 ^ 32 - 1 from rfl, Nat.and_two_pow_sub_one_eq_mod]
  omega
theorem flag_len (b : Bool) : (Num.putB (flagN b)).size = 1 := by cases b <;> kernel_rfl
theorem body_ne (m : M) : bodyB m ≠ ⟨([] : List UInt8).toArray⟩ := by
  intro h
  have h1 := congrArg ByteArray.size h
  rw [body_size] at h1
  have h2 : (bodyL m).length = 0 := h1
  have h3 := flag_len m.flag
  unfold bodyL headL at h2
  simp only [List.length_append] at h2
  have h4 : (numsL [m.id, m.tg, m.rg, flagN m.flag, (m.news.length : Int)]).length = 0 := by omega
  unfold numsL at h4
  simp only [List.flatMap_cons, List.length_append, size_len] at h4
  omega
/-- What is new, and what turns alone. -/
theorem chg_step {S : Nat → Prop} {w w1 w2 : World} (h : Below w.heap.size w w1) (k : Chg S w1 w2) : Chg S w w2 :=
  ⟨k.os.trans h.os, k.tape.trans h.tape, k.output.trans h.output, Nat.le_trans h.size k.size, fun i hi hn => (k.block i (Nat.lt_of_lt_of_le hi h.size) hn).trans (h.block i hi)⟩
end Go.Proofs.Ytdjompbhlkgmbaa.Msg
end
section
/- Pack where the message may be (own text; written by wip/tools/gen_msgpack.py). -/
namespace Go.Proofs.Ytdjompbhlkgmbaa.Msg
open Go.RowKit Go.Proofs.Ytdjompbhlkgmbaa.Mem Go.Proofs.YtdjompbhlkgmbaaW.PrintWords Go.Proofs.YtdjompbhlkgmbaaW.PrintLast Go.Proofs.YtdjompbhlkgmbaaW.PrintMore Go.Proofs.Ytdjompbhlkgmbaa.PMsg
open Go.Proofs.Ytdjompbhlkgmbaa.Num (putB putE textB)
set_option linter.unusedVariables false
set_option linter.unusedSimpArgs false
set_option maxRecDepth 100000 in
set_option maxHeartbeats 40000000 in
theorem pack_true (m : M) (A7 : Option Addr) (g7 : Nat) (A8 : Option Addr) (g8 : Nat) (A9 : Option Addr) (g9 : Nat) (A10 : Option Addr) (g10 : Nat) (A11 : Option Addr) (g11 : Nat) (b c tb : Nat) (w : World) (hm : HasM m A7 g7 A8 g8 A9 g9 A10 g10 A11 g11 w) (hs : SmM m) (hc : MCod w b c tb) (hy : mayM m = true) (hf : m.flag = true) :
    Calls Try.prog 10 #[.pointer (some ⟨b, 0, none⟩), .agg #[.int .u8 m.kind, .int .u8 m.fr, .int .u8 m.dst, .int .u32 m.id, .int .u8 m.tg, .int .u8 m.rg, .bool m.flag, .slice A7 m.news.length g7, .slice A8 m.keys.length g8, .slice A9 m.recs.length g9, .slice A10 m.seen.length g10, .slice A11 m.digs.length g11]] w fun e w' => e = .returned (.tuple #[.string (Frame.encS m.kind.toNat m.fr.toNat m.dst.toNat (bodyB m)), .int .i64 (Frame.encE m.kind.toNat m.fr.toNat m.dst.toNat (bodyB m))]) ∧ Sum.IsTab w' tb ∧ Chg (fun x => x = tb) w w' := by
  have hmay := fun (W : World) (h : Below w.heap.size w W) => may_c m A7 g7 A8 g8 A9 g9 A10 g10 A11 g11 W (hm.below h) hs
  rw [hy, hf] at hmay
  rw [hf]
  have HS := Lib.hid hs
  have HC := Lib.hid hc
  have HF := Lib.hid hf
  have HE := Lib.hid (fun (W : World) (h : MCod W b c tb) => packEnc m b c tb W h hs)
  have HR7 := Lib.hid hm.r7
  have hl7 := hm.l7
  have hb7 := hs.n1
  have HL7 := Lib.hid (news_len hs)
  have HR8 := Lib.hid hm.r8
  have hl8 := hm.l8
  have hb8 := hs.n2
  have HL8 := Lib.hid (keys_len hs)
  have HR9 := Lib.hid hm.r9
  have hl9 := hm.l9
  have hb9 := hs.n3
  have HL9 := Lib.hid (recs_len hs)
  have HR10 := Lib.hid hm.r10
  have hl10 := hm.l10
  have hb10 := hs.n4
  have HL10 := Lib.hid (seen_len hs)
  have HR11 := Lib.hid hm.r11
  have hl11 := hm.l11
  have hb11 := hs.n5
  have HL11 := Lib.hid (digs_len hs)
  have k0 := hs.kind; have k3 := hs.id; have k4 := hs.tg; have k5 := hs.rg
  unfold isB at k0 k3 k4 k5
  have v3 : IntKind.u64.wrap m.id = m.id := IntWalk.u64_in _ ⟨by omega, by omega⟩
  have v4 : IntKind.u64.wrap m.tg = m.tg := IntWalk.u64_in _ ⟨by omega, by omega⟩
  have v5 : IntKind.u64.wrap m.rg = m.rg := IntWalk.u64_in _ ⟨by omega, by omega⟩
  have K0 := Lib.hid (And.intro k3.1 (And.intro k4.1 k5.1))
  clear hs hm hc hf k0 k3 k4 k5
  obtain ⟨n1, hn7⟩ : ∃ n, n = m.news.length := ⟨_, rfl⟩
  rw [← hn7] at hmay hl7 hb7 ⊢
  have HN7 := Lib.hid hn7
  clear hn7
  have w7 : IntKind.u64.wrap (n1 : Int) = (n1 : Int) := IntWalk.u64_in _ ⟨by omega, by omega⟩
  obtain ⟨n2, hn8⟩ : ∃ n, n = m.keys.length := ⟨_, rfl⟩
  rw [← hn8] at hmay hl8 hb8 ⊢
  have HN8 := Lib.hid hn8
  clear hn8
  have w8 : IntKind.u64.wrap (n2 : Int) = (n2 : Int) := IntWalk.u64_in _ ⟨by omega, by omega⟩
  obtain ⟨n3, hn9⟩ : ∃ n, n = m.recs.length := ⟨_, rfl⟩
  rw [← hn9] at hmay hl9 hb9 ⊢
  have HN9 := Lib.hid hn9
  clear hn9
  have w9 : IntKind.u64.wrap (n3 : Int) = (n3 : Int) := IntWalk.u64_in _ ⟨by omega, by omega⟩
  obtain ⟨n4, hn10⟩ : ∃ n, n = m.seen.length := ⟨_, rfl⟩
  rw [← hn10] at hmay hl10 hb10 ⊢
  have HN10 := Lib.hid hn10
  clear hn10
  have w10 : IntKind.u64.wrap (n4 : Int) = (n4 : Int) := IntWalk.u64_in _ ⟨by omega, by omega⟩
  obtain ⟨n5, hn11⟩ : ∃ n, n = m.digs.length := ⟨_, rfl⟩
  rw [← hn11] at hmay hl11 hb11 ⊢
  have HN11 := Lib.hid hn11
  clear hn11
  have w11 : IntKind.u64.wrap (n5 : Int) = (n5 : Int) := IntWalk.u64_in _ ⟨by omega, by omega⟩
  have MY := Lib.hid hmay
  clear hmay
  have HG7 := Lib.hid hl7
  have HB7 := Lib.hid hb7
  have HG8 := Lib.hid hl8
  have HB8 := Lib.hid hb8
  have HG9 := Lib.hid hl9
  have HB9 := Lib.hid hb9
  have HG10 := Lib.hid hl10
  have HB10 := Lib.hid hb10
  have HG11 := Lib.hid hl11
  have HB11 := Lib.hid hb11
  clear hl7 hb7 hl8 hb8 hl9 hb9 hl10 hb10 hl11 hb11
  go_enter Try.func10, Try.ntmps10
  go_upto_region 1 with (fail)
  have AZ := Lib.hid (blk_new w (.cells #[.int .u8 m.kind, .int .u8 m.fr, .int .u8 m.dst, .int .u32 m.id, .int .u8 m.tg, .int .u8 m.rg, .bool true, .slice A7 n1 g7, .slice A8 n2 g8, .slice A9 n3 g9, .slice A10 n4 g10, .slice A11 n5 g11] 29))
  have HB := Lib.hid (below_alloc (Below.refl w.heap.size w) (.cells #[.int .u8 m.kind, .int .u8 m.fr, .int .u8 m.dst, .int .u32 m.id, .int .u8 m.tg, .int .u8 m.rg, .bool true, .slice A7 n1 g7, .slice A8 n2 g8, .slice A9 n3 g9, .slice A10 n4 g10, .slice A11 n5 g11] 29))
  generalize w.alloc (.cells #[.int .u8 m.kind, .int .u8 m.fr, .int .u8 m.dst, .int .u32 m.id, .int .u8 m.tg, .int .u8 m.rg, .bool true, .slice A7 n1 g7, .slice A8 n2 g8, .slice A9 n3 g9, .slice A10 n4 g10, .slice A11 n5 g11] 29) = w1 at *
  have ez0 : w1.cell? ⟨w.heap.size, 0, none⟩ = some (.int .u8 m.kind) := (blk_cell AZ.out 0).trans rfl
  have ez1 : w1.cell? ⟨w.heap.size, 1, none⟩ = some (.int .u8 m.fr) := (blk_cell AZ.out 1).trans rfl
  have ez2 : w1.cell? ⟨w.heap.size, 2, none⟩ = some (.int .u8 m.dst) := (blk_cell AZ.out 2).trans rfl
  have ez3 : w1.cell? ⟨w.heap.size, 3, none⟩ = some (.int .u32 m.id) := (blk_cell AZ.out 3).trans rfl
  have ez4 : w1.cell? ⟨w.heap.size, 4, none⟩ = some (.int .u8 m.tg) := (blk_cell AZ.out 4).trans rfl
  have ez5 : w1.cell? ⟨w.heap.size, 5, none⟩ = some (.int .u8 m.rg) := (blk_cell AZ.out 5).trans rfl
  have ez6 : w1.cell? ⟨w.heap.size, 6, none⟩ = some (.bool true) := (blk_cell AZ.out 6).trans rfl
  have ez7 : w1.cell? ⟨w.heap.size, 7, none⟩ = some (.slice A7 n1 g7) := (blk_cell AZ.out 7).trans rfl
  have ez8 : w1.cell? ⟨w.heap.size, 8, none⟩ = some (.slice A8 n2 g8) := (blk_cell AZ.out 8).trans rfl
  have ez9 : w1.cell? ⟨w.heap.size, 9, none⟩ = some (.slice A9 n3 g9) := (blk_cell AZ.out 9).trans rfl
  have ez10 : w1.cell? ⟨w.heap.size, 10, none⟩ = some (.slice A10 n4 g10) := (blk_cell AZ.out 10).trans rfl
  have ez11 : w1.cell? ⟨w.heap.size, 11, none⟩ = some (.slice A11 n5 g11) := (blk_cell AZ.out 11).trans rfl
  go_upto_region 4 with (go_at_call 18; (with_reducible refine (MY.out _ HB.out).mono ?_); rintro e w2 ⟨rfl, hb2⟩; have HB2 := Lib.hid (below_step HB.out hb2); have AZ2 := Lib.hid (blk_below AZ.out hb2); clear hb2 HB AZ)
  clear MY
  have ST := Lib.hid (St.new HB2.out AZ2.out)
  clear HB2 AZ2
  generalize w2.heap.size = zb at *
  generalize w2.alloc (.cells #[.pointer none, .slice none 0 0] 67) = w3 at *
  have ey3 : w3.cell? ⟨w.heap.size, 3, none⟩ = some (.int .u32 m.id) := (blk_cell ST.out.az 3).trans rfl
  have ey4 : w3.cell? ⟨w.heap.size, 4, none⟩ = some (.int .u8 m.tg) := (blk_cell ST.out.az 4).trans rfl
  have ey5 : w3.cell? ⟨w.heap.size, 5, none⟩ = some (.int .u8 m.rg) := (blk_cell ST.out.az 5).trans rfl
  have ey6 : w3.cell? ⟨w.heap.size, 6, none⟩ = some (.bool true) := (blk_cell ST.out.az 6).trans rfl
  have ey7 : w3.cell? ⟨w.heap.size, 7, none⟩ = some (.slice A7 n1 g7) := (blk_cell ST.out.az 7).trans rfl
  have ey8 : w3.cell? ⟨w.heap.size, 8, none⟩ = some (.slice A8 n2 g8) := (blk_cell ST.out.az 8).trans rfl
  have ey9 : w3.cell? ⟨w.heap.size, 9, none⟩ = some (.slice A9 n3 g9) := (blk_cell ST.out.az 9).trans rfl
  have ey10 : w3.cell? ⟨w.heap.size, 10, none⟩ = some (.slice A10 n4 g10) := (blk_cell ST.out.az 10).trans rfl
  have ey11 : w3.cell? ⟨w.heap.size, 11, none⟩ = some (.slice A11 n5 g11) := (blk_cell ST.out.az 11).trans rfl
  go_wp2_with (go_at_call 19; (with_reducible refine (ST.out.num5 m.id m.tg m.rg 1 (n1 : Int) K0.out.1 K0.out.2.1 K0.out.2.2 (by decide) (Int.natCast_nonneg _) (by decide)).mono ?_); rintro e w4 ⟨rfl, st, -⟩; have ST1 := Lib.hid st; clear st ST; have ex7 : w4.cell? ⟨w.heap.size, 7, none⟩ = some (.slice A7 n1 g7) := (blk_cell ST1.out.az 7).trans rfl)
  obtain ⟨T0, hT0, hl0⟩ : ∃ T : List UInt8, T = [] ++ numsL [m.id, m.tg, m.rg, 1, (n1 : Int)] ∧ T.length ≤ 40 := ⟨_, rfl, numsL_len [m.id, m.tg, m.rg, 1, (n1 : Int)]⟩
  rw [← hT0] at ST1
  have HT0 := Lib.hid hT0
  have HTL0 := Lib.hid hl0
  clear hT0 hl0
  go_loopw [51] (fun v51 w' => ∃ (i : Nat) (y : Int), i ≤ n1 ∧ v51 = .int .i64 y ∧ Hid (y = (i : Int)) ∧ Hid (St w w.heap.size zb #[.int .u8 m.kind, .int .u8 m.fr, .int .u8 m.dst, .int .u32 m.id, .int .u8 m.tg, .int .u8 m.rg, .bool true, .slice A7 n1 g7, .slice A8 n2 g8, .slice A9 n3 g9, .slice A10 n4 g10, .slice A11 n5 g11] (T0 ++ (m.news.take i).flatMap newsI) w')) (fun v _ => n1 - (intOf v).toNat)
  case atStart => exact ⟨0, 0, Nat.zero_le _, rfl, Lib.hid rfl, Lib.hid (by rw [show (m.news.take 0).flatMap newsI = [] from rfl, List.append_nil]; exact ST1.out)⟩
  case round =>
    clear ST1
    obtain ⟨i, y, hi, rfl, HY, ST⟩ := hrel
    by_cases hlt : i < n1
    · have hil : i < m.news.length := by rw [← HN7.out]; exact hlt
      have p157 : 0 ≤ y := by have := HY.out; omega
      have q157 : y < (n1 : Int) := by have := HY.out; omega
      have vj : IntKind.i64.wrap (y + 1) = y + 1 := IntWalk.i64_in _ ⟨by omega, by have := HB7.out; omega⟩
      have HBB := Lib.hid ST.out.hb
      obtain ⟨ad, e157, hx0, hx1, hx2⟩ := at_T72 HR7.out y p157 (by rw [← HN7.out]; exact q157)
      cases e157
      replace hx0 := (HBB.out.cell (World.block_lt_of_cell? w _ hx0)).trans hx0
      replace hx1 := (HBB.out.cell (World.block_lt_of_cell? w _ hx1)).trans hx1
      replace hx2 := (HBB.out.cell (World.block_lt_of_cell? w _ hx2)).trans hx2
      have e0 : rd_T72 m.news y = m.news[i] := by
        rw [show y = (i : Int) from HY.out]
        unfold rd_T72
        rw [Int.toNat_natCast, List.getD_eq_getElem?_getD, List.getElem?_eq_getElem hil]
        rfl
      have HX := Lib.hid (show _ from HS.out.news _ (List.getElem_mem hil))
      have HI := Lib.hid (flat_snoc newsI m.news i hil)
      rw [← e0] at HX HI
      have HL := Lib.hid (show (T0 ++ (m.news.take i).flatMap newsI).length ≤ 900000 from by
        rw [List.length_append]
        have h1 := flat_take_len newsI m.news i
        have h2 := HL7.out
        have h3 := HTL0.out
        omega)
      clear e0 hil HBB
      generalize rd_T72 m.news y = x at *
      have hq0 : (0 ≤ y) = True := eq_true p157
      have hq1 : (y < (n1 : Int)) = True := eq_true q157
      go_upto_region 11 with (fail)
      have AX := Lib.hid (blk_new wr (.cells #[.int .u8 x.f0, .int .u8 x.f1.f0, .int .u32 x.f1.f1] 72))
      have hxb : wr.heap.size ≠ zb := by have := ST.out.lt; omega
      replace ST := Lib.hid (ST.out.alloc (.cells #[.int .u8 x.f0, .int .u8 x.f1.f0, .int .u32 x.f1.f1] 72))
      clear hx0 hx1 hx2
      generalize wr.alloc (.cells #[.int .u8 x.f0, .int .u8 x.f1.f0, .int .u32 x.f1.f1] 72) = w5 at *
      generalize wr.heap.size = zx at *
      have eq0 : w5.cell? ⟨zx, 0, none⟩ = some (.int .u8 x.f0) := (blk_cell AX.out 0).trans rfl
      have eq1 : w5.cell? ⟨zx, 1, none⟩ = some (.int .u8 x.f1.f0) := (blk_cell AX.out 1).trans rfl
      have eq2 : w5.cell? ⟨zx, 2, none⟩ = some (.int .u32 x.f1.f1) := (blk_cell AX.out 2).trans rfl
      have hr := HX.out
      unfold isB at hr
      have u0 : IntKind.u64.wrap x.f0 = x.f0 := IntWalk.u64_in _ ⟨by omega, by omega⟩
      have u1 : IntKind.u64.wrap x.f1.f0 = x.f1.f0 := IntWalk.u64_in _ ⟨by omega, by omega⟩
      have u2 : IntKind.u64.wrap x.f1.f1 = x.f1.f1 := IntWalk.u64_in _ ⟨by omega, by omega⟩
      have HZ := Lib.hid (And.intro hr.1.1 (And.intro hr.2.1.1 hr.2.2.1))
      clear hr
      go_wp2_with (go_at_call 19; (with_reducible refine (ST.out.num3 x.f0 x.f1.f0 x.f1.f1 HZ.out.1 HZ.out.2.1 HZ.out.2.2 (by have := HL.out; omega)).mono ?_); rintro e w6 ⟨rfl, st, -⟩; have ST6 := Lib.hid st; clear st ST)
      exact ⟨⟨i + 1, y + 1, by omega, rfl, Lib.hid (by have := HY.out; omega), Lib.hid (by rw [HI.out, ← List.append_assoc]; exact ST6.out)⟩, by have := HY.out; simp [intOf]; omega⟩
    · have hie : i = n1 := by omega
      have hq2 : decide (y < (n1 : Int)) = false := decide_eq_false (by have := HY.out; omega)
      rw [show m.news.take i = m.news from by rw [hie, HN7.out]; exact List.take_length] at ST
      clear hie hi hlt HY
      have ey8 : wr.cell? ⟨w.heap.size, 8, none⟩ = some (.slice A8 n2 g8) := (blk_cell ST.out.az 8).trans rfl
      go_wp2_with (go_at_call 19; (with_reducible refine (ST.out.num1 (n2 : Int) (Int.natCast_nonneg _) (by rw [List.length_append]; have h2 := HL7.out; have h3 := HTL0.out; omega)).mono ?_); rintro e w4 ⟨rfl, st, -⟩; have ST1 := Lib.hid st; clear st ST; have ex8 : w4.cell? ⟨w.heap.size, 8, none⟩ = some (.slice A8 n2 g8) := (blk_cell ST1.out.az 8).trans rfl)
      obtain ⟨T1, hT, hl⟩ : ∃ T : List UInt8, T = (T0 ++ m.news.flatMap newsI) ++ numsL [(n2 : Int)] ∧ T.length ≤ 120048 := ⟨_, rfl, by
        rw [List.length_append, List.length_append]
        have h1 := num1_len (n2 : Int)
        have h2 := HL7.out
        have h3 := HTL0.out
        omega⟩
      rw [← hT] at ST1
      have HT1 := Lib.hid hT
      have HTL1 := Lib.hid hl
      clear hT hl
      go_loopw [80] (fun v80 w' => ∃ (i : Nat) (y : Int), i ≤ n2 ∧ v80 = .int .i64 y ∧ Hid (y = (i : Int)) ∧ Hid (St w w.heap.size zb #[.int .u8 m.kind, .int .u8 m.fr, .int .u8 m.dst, .int .u32 m.id, .int .u8 m.tg, .int .u8 m.rg, .bool true, .slice A7 n1 g7, .slice A8 n2 g8, .slice A9 n3 g9, .slice A10 n4 g10, .slice A11 n5 g11] (T1 ++ (m.keys.take i).flatMap keysI) w')) (fun v _ => n2 - (intOf v).toNat)
      case atStart => exact ⟨0, 0, Nat.zero_le _, rfl, Lib.hid rfl, Lib.hid (by rw [show (m.keys.take 0).flatMap keysI = [] from rfl, List.append_nil]; exact ST1.out)⟩
      case round =>
        clear ST1
        obtain ⟨i, y, hi, rfl, HY, ST⟩ := hrel
        by_cases hlt : i < n2
        · have hil : i < m.keys.length := by rw [← HN8.out]; exact hlt
          have p157 : 0 ≤ y := by have := HY.out; omega
          have q157 : y < (n2 : Int) := by have := HY.out; omega
          have vj : IntKind.i64.wrap (y + 1) = y + 1 := IntWalk.i64_in _ ⟨by omega, by have := HB8.out; omega⟩
          have HBB := Lib.hid ST.out.hb
          obtain ⟨ad, e157, hx0⟩ := Kd.at_string HR8.out y p157 (by rw [← HN8.out]; exact q157)
          cases e157
          replace hx0 := (HBB.out.cell (World.block_lt_of_cell? w _ hx0)).trans hx0
          have e0 : rdOf ByteArray.empty m.keys y = m.keys[i] := by
            rw [show y = (i : Int) from HY.out]
            unfold rdOf
            rw [Int.toNat_natCast, List.getD_eq_getElem?_getD, List.getElem?_eq_getElem hil]
            rfl
          have HX := Lib.hid (show _ from HS.out.keys _ (List.getElem_mem hil))
          have HI := Lib.hid (flat_snoc keysI m.keys i hil)
          rw [← e0] at HX HI
          have HL := Lib.hid (show (T1 ++ (m.keys.take i).flatMap keysI).length ≤ 900000 from by
            rw [List.length_append]
            have h1 := flat_take_len keysI m.keys i
            have h2 := HL8.out
            have h3 := HTL1.out
            omega)
          clear e0 hil HBB
          generalize rdOf ByteArray.empty m.keys y = x at *
          have hq0 : (0 ≤ y) = True := eq_true p157
          have hq1 : (y < (n2 : Int)) = True := eq_true q157
          go_wp2_with (fail)
          refine start_ (n := 6) (S := fun w' => True) (ds := []) #[false, false, false, false, false, false] (by kernel_rfl) rfl rfl trivial (fun hHeld => ?_)
          replace ST := Lib.hid ST.out.drew
          generalize wr.drew = w3' at ST hHeld ⊢
          refine pure_ (i := 0) (N := some 84) (v := ?_) (a' := ?_) #[true, false, false, false, false, false] rfl rfl (by kernel_rfl) (fun _ _ _ h => h) (Or.inl ⟨by rfl, ?_⟩) ?_ ?_
          rotate_left
          · intro w'
            go_simp
            with_reducible rfl
          rotate_left
          · simp only [Act.put, List.setIfInBounds_toArray, List.set_cons_zero, List.set_cons_succ, i64_w, i32_w]
            rfl
          refine pure_ (i := 1) (N := some 85) (v := ?_) (a' := ?_) #[true, true, false, false, false, false] rfl rfl (by kernel_rfl) (fun _ _ _ h => h) (Or.inl ⟨by rfl, ?_⟩) ?_ ?_
          rotate_left
          · intro w'
            go_simp
            with_reducible rfl
          rotate_left
          · simp only [Act.put, List.setIfInBounds_toArray, List.set_cons_zero, List.set_cons_succ, i64_w, i32_w]
            rfl
          refine pure_ (i := 2) (N := some 86) (v := ?_) (a' := ?_) #[true, true, true, false, false, false] rfl rfl (by kernel_rfl) (fun _ _ _ h => h) (Or.inl ⟨by rfl, ?_⟩) ?_ ?_
          rotate_left
          · intro w'
            go_simp
            with_reducible rfl
          rotate_left
          · simp only [Act.put, List.setIfInBounds_toArray, List.set_cons_zero, List.set_cons_succ, i64_w, i32_w]
            rfl
          refine pure_ (i := 3) (N := some 87) (v := ?_) (a' := ?_) #[true, true, true, true, false, false] rfl rfl (by kernel_rfl) (fun _ _ _ h => h) (Or.inl ⟨by rfl, ?_⟩) ?_ ?_
          rotate_left
          · intro w'
            go_simp
            with_reducible rfl
          rotate_left
          · simp only [Act.put, List.setIfInBounds_toArray, List.set_cons_zero, List.set_cons_succ, i64_w, i32_w]
            rfl
          refine one_ (i := 4) (N := some 88) #[true, true, true, true, true, false] rfl rfl (by kernel_rfl) (by decide) (fun K hK => ?_)
          refine goes_ Try.func21 (by kernel_rfl) rfl #[.string x] (by rfl) rfl rfl (by simp only [List.map_toArray, List.map_cons, List.map_nil]; rfl) ?_
          with_reducible refine (Num.putText_any x _ (by have := HX.out; omega)).mono ?_
          rintro e w10 ⟨rfl, hb⟩
          refine ⟨_, rfl, ?_⟩
          have ST5 := Lib.hid (ST.out.below hb)
          clear hb ST
          refine hK.out _ _ trivial (fun hHeld => ?_)
          clear hK K
          refine norm_ (a' := ?_) ?_ ?_
          rotate_left
          · show Act.put _ (some 88) _ = _
            simp only [Act.put, List.setIfInBounds_toArray, List.set_cons_zero, List.set_cons_succ, i64_w, i32_w]
            rfl
          refine one_ (i := 5) (N := some 89) #[true, true, true, true, true, true] rfl rfl (by kernel_rfl) (by decide) (fun K hK => ?_)
          refine goes_ Try.func20 (by kernel_rfl) rfl #[.pointer (some ⟨zb, 0, none⟩), .string (textB x)] (by rfl) rfl rfl (by simp only [List.map_toArray, List.map_cons, List.map_nil]; rfl) ?_
          with_reducible refine (ST5.out.put (textB x) (by have := Rec.textB_size x; have := HX.out; omega) (by have := HL.out; omega)).mono ?_
          rintro e w11 ⟨rfl, st, hk⟩
          refine ⟨_, rfl, ?_⟩
          have ST6 := Lib.hid st
          clear st hk ST5
          refine hK.out _ _ trivial (fun hHeld => ?_)
          clear hK K
          refine norm_ (a' := ?_) ?_ ?_
          rotate_left
          · show Act.put _ (some 89) _ = _
            simp only [Act.put, List.setIfInBounds_toArray, List.set_cons_zero, List.set_cons_succ, i64_w, i32_w]
            rfl
          refine done_ (by kernel_rfl) ?_
          go_wp2_with (fail)
          exact ⟨⟨i + 1, y + 1, by omega, rfl, Lib.hid (by have := HY.out; omega), Lib.hid (by rw [HI.out, ← List.append_assoc]; exact ST6.out)⟩, by have := HY.out; simp [intOf]; omega⟩
        · have hie : i = n2 := by omega
          have hq2 : decide (y < (n2 : Int)) = false := decide_eq_false (by have := HY.out; omega)
          rw [show m.keys.take i = m.keys from by rw [hie, HN8.out]; exact List.take_length] at ST
          clear hie hi hlt HY
          have ey9 : wr.cell? ⟨w.heap.size, 9, none⟩ = some (.slice A9 n3 g9) := (blk_cell ST.out.az 9).trans rfl
          go_wp2_with (go_at_call 19; (with_reducible refine (ST.out.num1 (n3 : Int) (Int.natCast_nonneg _) (by rw [List.length_append]; have h2 := HL8.out; have h3 := HTL1.out; omega)).mono ?_); rintro e w4 ⟨rfl, st, -⟩; have ST1 := Lib.hid st; clear st ST; have ex9 : w4.cell? ⟨w.heap.size, 9, none⟩ = some (.slice A9 n3 g9) := (blk_cell ST1.out.az 9).trans rfl)
          obtain ⟨T2, hT, hl⟩ : ∃ T : List UInt8, T = (T1 ++ m.keys.flatMap keysI) ++ numsL [(n3 : Int)] ∧ T.length ≤ 169056 := ⟨_, rfl, by
            rw [List.length_append, List.length_append]
            have h1 := num1_len (n3 : Int)
            have h2 := HL8.out
            have h3 := HTL1.out
            omega⟩
          rw [← hT] at ST1
          have HT2 := Lib.hid hT
          have HTL2 := Lib.hid hl
          clear hT hl
          go_loopw [101] (fun v101 w' => ∃ (i : Nat) (y : Int), i ≤ n3 ∧ v101 = .int .i64 y ∧ Hid (y = (i : Int)) ∧ Hid (St w w.heap.size zb #[.int .u8 m.kind, .int .u8 m.fr, .int .u8 m.dst, .int .u32 m.id, .int .u8 m.tg, .int .u8 m.rg, .bool true, .slice A7 n1 g7, .slice A8 n2 g8, .slice A9 n3 g9, .slice A10 n4 g10, .slice A11 n5 g11] (T2 ++ (m.recs.take i).flatMap recsI) w')) (fun v _ => n3 - (intOf v).toNat)
          case atStart => exact ⟨0, 0, Nat.zero_le _, rfl, Lib.hid rfl, Lib.hid (by rw [show (m.recs.take 0).flatMap recsI = [] from rfl, List.append_nil]; exact ST1.out)⟩
          case round =>
            clear ST1
            obtain ⟨i, y, hi, rfl, HY, ST⟩ := hrel
            by_cases hlt : i < n3
            · have hil : i < m.recs.length := by rw [← HN9.out]; exact hlt
              have p157 : 0 ≤ y := by have := HY.out; omega
              have q157 : y < (n3 : Int) := by have := HY.out; omega
              have vj : IntKind.i64.wrap (y + 1) = y + 1 := IntWalk.i64_in _ ⟨by omega, by have := HB9.out; omega⟩
              have HBB := Lib.hid ST.out.hb
              obtain ⟨ad, e157, hx0, hx1, hx2, hx3, hx4, hx5, hx6, hx7⟩ := at_T54 HR9.out y p157 (by rw [← HN9.out]; exact q157)
              cases e157
              replace hx0 := (HBB.out.cell (World.block_lt_of_cell? w _ hx0)).trans hx0
              replace hx1 := (HBB.out.cell (World.block_lt_of_cell? w _ hx1)).trans hx1
              replace hx2 := (HBB.out.cell (World.block_lt_of_cell? w _ hx2)).trans hx2
              replace hx3 := (HBB.out.cell (World.block_lt_of_cell? w _ hx3)).trans hx3
              replace hx4 := (HBB.out.cell (World.block_lt_of_cell? w _ hx4)).trans hx4
              replace hx5 := (HBB.out.cell (World.block_lt_of_cell? w _ hx5)).trans hx5
              replace hx6 := (HBB.out.cell (World.block_lt_of_cell? w _ hx6)).trans hx6
              replace hx7 := (HBB.out.cell (World.block_lt_of_cell? w _ hx7)).trans hx7
              have e0 : rd_T54 m.recs y = m.recs[i] := by
                rw [show y = (i : Int) from HY.out]
                unfold rd_T54
                rw [Int.toNat_natCast, List.getD_eq_getElem?_getD, List.getElem?_eq_getElem hil]
                rfl
              have HX := Lib.hid (show _ from HS.out.recs _ (List.getElem_mem hil))
              have HI := Lib.hid (flat_snoc recsI m.recs i hil)
              rw [← e0] at HX HI
              have HL := Lib.hid (show (T2 ++ (m.recs.take i).flatMap recsI).length ≤ 900000 from by
                rw [List.length_append]
                have h1 := flat_take_len recsI m.recs i
                have h2 := HL9.out
                have h3 := HTL2.out
                omega)
              clear e0 hil HBB
              generalize rd_T54 m.recs y = x at *
              have hq0 : (0 ≤ y) = True := eq_true p157
              have hq1 : (y < (n3 : Int)) = True := eq_true q157
              go_upto_region 23 with (fail)
              have AX := Lib.hid (blk_new wr (.cells #[.string x.f0, .int .u64 x.f1.f0, .int .u32 x.f1.f1, .int .u8 x.f1.f2, .int .u8 x.f2, .int .u32 x.f3, .int .u64 x.f4, .string x.f5] 54))
              have hxb : wr.heap.size ≠ zb := by have := ST.out.lt; omega
              replace ST := Lib.hid (ST.out.alloc (.cells #[.string x.f0, .int .u64 x.f1.f0, .int .u32 x.f1.f1, .int .u8 x.f1.f2, .int .u8 x.f2, .int .u32 x.f3, .int .u64 x.f4, .string x.f5] 54))
              clear hx0 hx1 hx2 hx3 hx4 hx5 hx6 hx7
              generalize wr.alloc (.cells #[.string x.f0, .int .u64 x.f1.f0, .int .u32 x.f1.f1, .int .u8 x.f1.f2, .int .u8 x.f2, .int .u32 x.f3, .int .u64 x.f4, .string x.f5] 54) = w5 at *
              generalize wr.heap.size = zx at *
              have eq0 : w5.cell? ⟨zx, 0, none⟩ = some (.string x.f0) := (blk_cell AX.out 0).trans rfl
              have eq1 : w5.cell? ⟨zx, 1, none⟩ = some (.int .u64 x.f1.f0) := (blk_cell AX.out 1).trans rfl
              have eq2 : w5.cell? ⟨zx, 2, none⟩ = some (.int .u32 x.f1.f1) := (blk_cell AX.out 2).trans rfl
              have eq3 : w5.cell? ⟨zx, 3, none⟩ = some (.int .u8 x.f1.f2) := (blk_cell AX.out 3).trans rfl
              have eq4 : w5.cell? ⟨zx, 4, none⟩ = some (.int .u8 x.f2) := (blk_cell AX.out 4).trans rfl
              have eq5 : w5.cell? ⟨zx, 5, none⟩ = some (.int .u32 x.f3) := (blk_cell AX.out 5).trans rfl
              have eq6 : w5.cell? ⟨zx, 6, none⟩ = some (.int .u64 x.f4) := (blk_cell AX.out 6).trans rfl
              have eq7 : w5.cell? ⟨zx, 7, none⟩ = some (.string x.f5) := (blk_cell AX.out 7).trans rfl
              have hx9 := HX.out
              have RP := Lib.hid (fun (W : World) => Rec.recPut_any x.f0 x.f1.f0 x.f1.f1 x.f1.f2 x.f2 x.f3 x.f4 x.f5 W (by omega) hx9.2)
              have RS := Lib.hid (show (recS x).size ≤ 20000 from by have := recS_size x; omega)
              clear hx9
              have HQ := Lib.hid (show recsI x = (recS x).data.toList from rfl)
              rw [show (if Rec.mayR x.f0 x.f1.f0 x.f1.f2 x.f2 x.f3 x.f4 x.f5 = true then Rec.recB x.f0 x.f1.f0 x.f1.f1 x.f1.f2 x.f2 x.f3 x.f4 x.f5 else ⟨#[]⟩) = recS x from rfl] at RP
              generalize recS x = s9 at *
              generalize Rec.recE x.f0 x.f1.f0 x.f1.f2 x.f2 x.f3 x.f4 x.f5 = e9 at *
              go_wp2_with (first
                | (go_at_call 22; (with_reducible refine (RP.out _).mono ?_); rintro e w6 ⟨rfl, hb⟩; have ST5 := Lib.hid (ST.out.below hb); clear hb ST RP)
                | (go_at_call 20; (with_reducible refine (ST5.out.put s9 (by have := RS.out; omega) (by have := HL.out; omega)).mono ?_); rintro e w7 ⟨rfl, st, -⟩; have ST6 := Lib.hid st; clear st ST5))
              exact ⟨⟨i + 1, y + 1, by omega, rfl, Lib.hid (by have := HY.out; omega), Lib.hid (by rw [HI.out, HQ.out, ← List.append_assoc]; exact ST6.out)⟩, by have := HY.out; simp [intOf]; omega⟩
            · have hie : i = n3 := by omega
              have hq2 : decide (y < (n3 : Int)) = false := decide_eq_false (by have := HY.out; omega)
              rw [show m.recs.take i = m.recs from by rw [hie, HN9.out]; exact List.take_length] at ST
              clear hie hi hlt HY
              have ey10 : wr.cell? ⟨w.heap.size, 10, none⟩ = some (.slice A10 n4 g10) := (blk_cell ST.out.az 10).trans rfl
              go_wp2_with (go_at_call 19; (with_reducible refine (ST.out.num1 (n4 : Int) (Int.natCast_nonneg _) (by rw [List.length_append]; have h2 := HL9.out; have h3 := HTL2.out; omega)).mono ?_); rintro e w4 ⟨rfl, st, -⟩; have ST1 := Lib.hid st; clear st ST; have ex10 : w4.cell? ⟨w.heap.size, 10, none⟩ = some (.slice A10 n4 g10) := (blk_cell ST1.out.az 10).trans rfl)
              obtain ⟨T3, hT, hl⟩ : ∃ T : List UInt8, T = (T2 ++ m.recs.flatMap recsI) ++ numsL [(n4 : Int)] ∧ T.length ≤ 498064 := ⟨_, rfl, by
                rw [List.length_append, List.length_append]
                have h1 := num1_len (n4 : Int)
                have h2 := HL9.out
                have h3 := HTL2.out
                omega⟩
              rw [← hT] at ST1
              have HT3 := Lib.hid hT
              have HTL3 := Lib.hid hl
              clear hT hl
              go_loopw [126] (fun v126 w' => ∃ (i : Nat) (y : Int), i ≤ n4 ∧ v126 = .int .i64 y ∧ Hid (y = (i : Int)) ∧ Hid (St w w.heap.size zb #[.int .u8 m.kind, .int .u8 m.fr, .int .u8 m.dst, .int .u32 m.id, .int .u8 m.tg, .int .u8 m.rg, .bool true, .slice A7 n1 g7, .slice A8 n2 g8, .slice A9 n3 g9, .slice A10 n4 g10, .slice A11 n5 g11] (T3 ++ (m.seen.take i).flatMap seenI) w')) (fun v _ => n4 - (intOf v).toNat)
              case atStart => exact ⟨0, 0, Nat.zero_le _, rfl, Lib.hid rfl, Lib.hid (by rw [show (m.seen.take 0).flatMap seenI = [] from rfl, List.append_nil]; exact ST1.out)⟩
              case round =>
                clear ST1
                obtain ⟨i, y, hi, rfl, HY, ST⟩ := hrel
                by_cases hlt : i < n4
                · have hil : i < m.seen.length := by rw [← HN10.out]; exact hlt
                  have p157 : 0 ≤ y := by have := HY.out; omega
                  have q157 : y < (n4 : Int) := by have := HY.out; omega
                  have vj : IntKind.i64.wrap (y + 1) = y + 1 := IntWalk.i64_in _ ⟨by omega, by have := HB10.out; omega⟩
                  have HBB := Lib.hid ST.out.hb
                  obtain ⟨ad, e157, hx0, hx1, hx2, hx3, hx4⟩ := at_T56 HR10.out y p157 (by rw [← HN10.out]; exact q157)
                  cases e157
                  replace hx0 := (HBB.out.cell (World.block_lt_of_cell? w _ hx0)).trans hx0
                  replace hx1 := (HBB.out.cell (World.block_lt_of_cell? w _ hx1)).trans hx1
                  replace hx2 := (HBB.out.cell (World.block_lt_of_cell? w _ hx2)).trans hx2
                  replace hx3 := (HBB.out.cell (World.block_lt_of_cell? w _ hx3)).trans hx3
                  replace hx4 := (HBB.out.cell (World.block_lt_of_cell? w _ hx4)).trans hx4
                  have e0 : rd_T56 m.seen y = m.seen[i] := by
                    rw [show y = (i : Int) from HY.out]
                    unfold rd_T56
                    rw [Int.toNat_natCast, List.getD_eq_getElem?_getD, List.getElem?_eq_getElem hil]
                    rfl
                  have HX := Lib.hid (show _ from HS.out.seen _ (List.getElem_mem hil))
                  have HI := Lib.hid (flat_snoc seenI m.seen i hil)
                  rw [← e0] at HX HI
                  have HL := Lib.hid (show (T3 ++ (m.seen.take i).flatMap seenI).length ≤ 900000 from by
                    rw [List.length_append]
                    have h1 := flat_take_len seenI m.seen i
                    have h2 := HL10.out
                    have h3 := HTL3.out
                    omega)
                  clear e0 hil HBB
                  generalize rd_T56 m.seen y = x at *
                  have hq0 : (0 ≤ y) = True := eq_true p157
                  have hq1 : (y < (n4 : Int)) = True := eq_true q157
                  go_upto_region 30 with (fail)
                  have AX := Lib.hid (blk_new wr (.cells #[.string x.f0, .int .u64 x.f1.f0, .int .u32 x.f1.f1, .int .u8 x.f1.f2, .int .u8 x.f2] 56))
                  have hxb : wr.heap.size ≠ zb := by have := ST.out.lt; omega
                  replace ST := Lib.hid (ST.out.alloc (.cells #[.string x.f0, .int .u64 x.f1.f0, .int .u32 x.f1.f1, .int .u8 x.f1.f2, .int .u8 x.f2] 56))
                  clear hx0 hx1 hx2 hx3 hx4
                  generalize wr.alloc (.cells #[.string x.f0, .int .u64 x.f1.f0, .int .u32 x.f1.f1, .int .u8 x.f1.f2, .int .u8 x.f2] 56) = w5 at *
                  generalize wr.heap.size = zx at *
                  have eq0 : w5.cell? ⟨zx, 0, none⟩ = some (.string x.f0) := (blk_cell AX.out 0).trans rfl
                  have eq1 : w5.cell? ⟨zx, 1, none⟩ = some (.int .u64 x.f1.f0) := (blk_cell AX.out 1).trans rfl
                  have eq2 : w5.cell? ⟨zx, 2, none⟩ = some (.int .u32 x.f1.f1) := (blk_cell AX.out 2).trans rfl
                  have eq3 : w5.cell? ⟨zx, 3, none⟩ = some (.int .u8 x.f1.f2) := (blk_cell AX.out 3).trans rfl
                  have eq4 : w5.cell? ⟨zx, 4, none⟩ = some (.int .u8 x.f2) := (blk_cell AX.out 4).trans rfl
                  have hr := HX.out
                  unfold isB at hr
                  have u1 : IntKind.u64.wrap x.f1.f0 = x.f1.f0 := IntWalk.u64_in _ ⟨by omega, by omega⟩
                  have u2 : IntKind.u64.wrap x.f1.f1 = x.f1.f1 := IntWalk.u64_in _ ⟨by omega, by omega⟩
                  have u3 : IntKind.u64.wrap x.f1.f2 = x.f1.f2 := IntWalk.u64_in _ ⟨by omega, by omega⟩
                  have u4 : IntKind.u64.wrap x.f2 = x.f2 := IntWalk.u64_in _ ⟨by omega, by omega⟩
                  have HZ := Lib.hid (And.intro hr.2.1.1 (And.intro hr.2.2.1.1 (And.intro hr.2.2.2.1.1 hr.2.2.2.2.1)))
                  clear hr
                  go_wp2_with (fail)
                  refine start_ (n := 7) (S := fun w' => w'.cell? ⟨zx, 0, none⟩ = some (.string x.f0)) (ds := []) #[false, false, false, false, false, false, false] (by kernel_rfl) rfl rfl ((blk_cell AX.out 0).trans rfl) (fun hHeld => ?_)
                  replace ST := Lib.hid ST.out.drew
                  replace AX := Lib.hid (blk_drew AX.out)
                  generalize w5.drew = w3' at ST AX hHeld ⊢
                  refine pure_ (i := 0) (N := some 130) (v := ?_) (a' := ?_) #[true, false, false, false, false, false, false] rfl rfl (by kernel_rfl) (fun _ _ _ h => h) (Or.inl ⟨by rfl, ?_⟩) ?_ ?_
                  rotate_left
                  · intro w'
                    go_simp
                    with_reducible rfl
                  rotate_left
                  · simp only [Act.put, List.setIfInBounds_toArray, List.set_cons_zero, List.set_cons_succ, i64_w, i32_w]
                    rfl
                  refine pure_ (i := 1) (N := some 131) (v := ?_) (a' := ?_) #[true, true, false, false, false, false, false] rfl rfl (by kernel_rfl) (fun _ _ _ h => h) (Or.inl ⟨by rfl, ?_⟩) ?_ ?_
                  rotate_left
                  · intro w'
                    go_simp
                    with_reducible rfl
                  rotate_left
                  · simp only [Act.put, List.setIfInBounds_toArray, List.set_cons_zero, List.set_cons_succ, i64_w, i32_w]
                    rfl
                  refine pure_ (i := 2) (N := some 132) (v := ?_) (a' := ?_) #[true, true, true, false, false, false, false] rfl rfl (by kernel_rfl) (fun _ _ _ h => h) (Or.inl ⟨by rfl, ?_⟩) ?_ ?_
                  rotate_left
                  · intro w'
                    go_simp
                    with_reducible rfl
                  rotate_left
                  · simp only [Act.put, List.setIfInBounds_toArray, List.set_cons_zero, List.set_cons_succ, i64_w, i32_w]
                    rfl
                  refine pure_ (i := 3) (N := some 133) (v := ?_) (a' := ?_) #[true, true, true, true, false, false, false] rfl rfl (by kernel_rfl) (fun _ _ _ h => h) (Or.inl ⟨by rfl, ?_⟩) ?_ ?_
                  rotate_left
                  · intro w'
                    go_simp
                    with_reducible rfl
                  rotate_left
                  · simp only [Act.put, List.setIfInBounds_toArray, List.set_cons_zero, List.set_cons_succ, i64_w, i32_w]
                    rfl
                  refine take_ (i := 4) (N := some 134) (v := ?_) (a' := ?_) #[true, true, true, true, true, false, false] rfl rfl (by kernel_rfl) (fun _ _ _ h => h) (Or.inl ⟨by rfl, ?_⟩) hHeld ?_ ?_
                  rotate_left
                  · intro w' s0
                    go_simp
                    with_reducible rfl
                  rotate_left
                  · simp only [Act.put, List.setIfInBounds_toArray, List.set_cons_zero, List.set_cons_succ, i64_w, i32_w]
                    rfl
                  refine one_ (i := 5) (N := some 135) #[true, true, true, true, true, true, false] rfl rfl (by kernel_rfl) (by decide) (fun K hK => ?_)
                  refine goes_ Try.func21 (by kernel_rfl) rfl #[.string x.f0] (by rfl) rfl rfl (by simp only [List.map_toArray, List.map_cons, List.map_nil]; rfl) ?_
                  with_reducible refine (Num.putText_any x.f0 _ (by have := HX.out.1; omega)).mono ?_
                  rintro e w10 ⟨rfl, hb⟩
                  refine ⟨_, rfl, ?_⟩
                  have ST5 := Lib.hid (ST.out.below hb)
                  have AX5 := Lib.hid (blk_below AX.out hb)
                  clear hb ST AX
                  refine hK.out _ _ ((blk_cell AX5.out 0).trans rfl) (fun hHeld => ?_)
                  clear hK K
                  refine norm_ (a' := ?_) ?_ ?_
                  rotate_left
                  · show Act.put _ (some 135) _ = _
                    simp only [Act.put, List.setIfInBounds_toArray, List.set_cons_zero, List.set_cons_succ, i64_w, i32_w]
                    rfl
                  refine one_ (i := 6) (N := some 136) #[true, true, true, true, true, true, true] rfl rfl (by kernel_rfl) (by decide) (fun K hK => ?_)
                  refine goes_ Try.func20 (by kernel_rfl) rfl #[.pointer (some ⟨zb, 0, none⟩), .string (textB x.f0)] (by rfl) rfl rfl (by simp only [List.map_toArray, List.map_cons, List.map_nil]; rfl) ?_
                  with_reducible refine (ST5.out.put (textB x.f0) (by have := Rec.textB_size x.f0; have := HX.out.1; omega) (by have := HL.out; omega)).mono ?_
                  rintro e w11 ⟨rfl, st, hk⟩
                  refine ⟨_, rfl, ?_⟩
                  have ST6 := Lib.hid st
                  have AX6 := Lib.hid (hk zx _ AX5.out (fun e => hxb (Option.some.inj e)) (fun c fz e => by injection e with _ e _; cases e))
                  clear st hk ST5 AX5
                  refine hK.out _ _ ((blk_cell AX6.out 0).trans rfl) (fun hHeld => ?_)
                  clear hK K
                  refine norm_ (a' := ?_) ?_ ?_
                  rotate_left
                  · show Act.put _ (some 136) _ = _
                    simp only [Act.put, List.setIfInBounds_toArray, List.set_cons_zero, List.set_cons_succ, i64_w, i32_w]
                    rfl
                  refine done_ (by kernel_rfl) ?_
                  have er1 : w11.cell? ⟨zx, 1, none⟩ = some (.int .u64 x.f1.f0) := (blk_cell AX6.out 1).trans rfl
                  have er2 : w11.cell? ⟨zx, 2, none⟩ = some (.int .u32 x.f1.f1) := (blk_cell AX6.out 2).trans rfl
                  have er3 : w11.cell? ⟨zx, 3, none⟩ = some (.int .u8 x.f1.f2) := (blk_cell AX6.out 3).trans rfl
                  have er4 : w11.cell? ⟨zx, 4, none⟩ = some (.int .u8 x.f2) := (blk_cell AX6.out 4).trans rfl
                  go_wp2_with (go_at_call 19; (with_reducible refine (ST6.out.num4 x.f1.f0 x.f1.f1 x.f1.f2 x.f2 HZ.out.1 HZ.out.2.1 HZ.out.2.2.1 HZ.out.2.2.2 (by rw [List.length_append, size_len]; have := HL.out; have := Rec.textB_size x.f0; have := HX.out.1; omega)).mono ?_); rintro e w12 ⟨rfl, st, -⟩; have ST7 := Lib.hid st; clear st ST6)
                  exact ⟨⟨i + 1, y + 1, by omega, rfl, Lib.hid (by have := HY.out; omega), Lib.hid (by rw [HI.out, show seenI x = (textB x.f0).data.toList ++ numsL [x.f1.f0, x.f1.f1, x.f1.f2, x.f2] from rfl, ← List.append_assoc, ← List.append_assoc]; exact ST7.out)⟩, by have := HY.out; simp [intOf]; omega⟩
                · have hie : i = n4 := by omega
                  have hq2 : decide (y < (n4 : Int)) = false := decide_eq_false (by have := HY.out; omega)
                  rw [show m.seen.take i = m.seen from by rw [hie, HN10.out]; exact List.take_length] at ST
                  clear hie hi hlt HY
                  have ey11 : wr.cell? ⟨w.heap.size, 11, none⟩ = some (.slice A11 n5 g11) := (blk_cell ST.out.az 11).trans rfl
                  go_wp2_with (go_at_call 19; (with_reducible refine (ST.out.num1 (n5 : Int) (Int.natCast_nonneg _) (by rw [List.length_append]; have h2 := HL10.out; have h3 := HTL3.out; omega)).mono ?_); rintro e w4 ⟨rfl, st, -⟩; have ST1 := Lib.hid st; clear st ST; have ex11 : w4.cell? ⟨w.heap.size, 11, none⟩ = some (.slice A11 n5 g11) := (blk_cell ST1.out.az 11).trans rfl)
                  obtain ⟨T4, hT, hl⟩ : ∃ T : List UInt8, T = (T3 ++ m.seen.flatMap seenI) ++ numsL [(n5 : Int)] ∧ T.length ≤ 707072 := ⟨_, rfl, by
                    rw [List.length_append, List.length_append]
                    have h1 := num1_len (n5 : Int)
                    have h2 := HL10.out
                    have h3 := HTL3.out
                    omega⟩
                  rw [← hT] at ST1
                  have HT4 := Lib.hid hT
                  have HTL4 := Lib.hid hl
                  clear hT hl
                  go_loopw [165] (fun v165 w' => ∃ (i : Nat) (y : Int), i ≤ n5 ∧ v165 = .int .i64 y ∧ Hid (y = (i : Int)) ∧ Hid (St w w.heap.size zb #[.int .u8 m.kind, .int .u8 m.fr, .int .u8 m.dst, .int .u32 m.id, .int .u8 m.tg, .int .u8 m.rg, .bool true, .slice A7 n1 g7, .slice A8 n2 g8, .slice A9 n3 g9, .slice A10 n4 g10, .slice A11 n5 g11] (T4 ++ (m.digs.take i).flatMap digsI) w')) (fun v _ => n5 - (intOf v).toNat)
                  case atStart => exact ⟨0, 0, Nat.zero_le _, rfl, Lib.hid rfl, Lib.hid (by rw [show (m.digs.take 0).flatMap digsI = [] from rfl, List.append_nil]; exact ST1.out)⟩
                  case round =>
                    clear ST1
                    obtain ⟨i, y, hi, rfl, HY, ST⟩ := hrel
                    by_cases hlt : i < n5
                    · have hil : i < m.digs.length := by rw [← HN11.out]; exact hlt
                      have p157 : 0 ≤ y := by have := HY.out; omega
                      have q157 : y < (n5 : Int) := by have := HY.out; omega
                      have vj : IntKind.i64.wrap (y + 1) = y + 1 := IntWalk.i64_in _ ⟨by omega, by have := HB11.out; omega⟩
                      have HBB := Lib.hid ST.out.hb
                      obtain ⟨ad, e157, hx0⟩ := Kd.at_int HR11.out y p157 (by rw [← HN11.out]; exact q157)
                      cases e157
                      replace hx0 := (HBB.out.cell (World.block_lt_of_cell? w _ hx0)).trans hx0
                      have e0 : rd m.digs y = m.digs[i] := by
                        rw [show y = (i : Int) from HY.out]
                        unfold rd
                        rw [Int.toNat_natCast, List.getD_eq_getElem?_getD, List.getElem?_eq_getElem hil]
                        rfl
                      have HX := Lib.hid (show _ from HS.out.digs _ (List.getElem_mem hil))
                      have HI := Lib.hid (flat_snoc digsI m.digs i hil)
                      rw [← e0] at HX HI
                      have HL := Lib.hid (show (T4 ++ (m.digs.take i).flatMap digsI).length ≤ 900000 from by
                        rw [List.length_append]
                        have h1 := flat_take_len digsI m.digs i
                        have h2 := HL11.out
                        have h3 := HTL4.out
                        omega)
                      clear e0 hil HBB
                      generalize rd m.digs y = x at *
                      have hq0 : (0 ≤ y) = True := eq_true p157
                      have hq1 : (y < (n5 : Int)) = True := eq_true q157
                      have hr := HX.out
                      unfold isB at hr
                      have hd2 := dig_and x hr.1 hr.2
                      have HD := Lib.hid (show 0 ≤ x / 4294967296 ∧ 0 ≤ x % 4294967296 from ⟨by omega, by omega⟩)
                      have HQ := Lib.hid (show digsI x = numsL [x / 4294967296, x % 4294967296] from rfl)
                      clear hr
                      go_wp2_with (go_at_call 19; (with_reducible refine (ST.out.num2 (x / 4294967296) (x % 4294967296) HD.out.1 HD.out.2 (by have := HL.out; omega)).mono ?_); rintro e w6 ⟨rfl, st, -⟩; have ST6 := Lib.hid st; clear st ST)
                      exact ⟨⟨i + 1, y + 1, by omega, rfl, Lib.hid (by have := HY.out; omega), Lib.hid (by rw [HI.out, HQ.out, ← List.append_assoc]; exact ST6.out)⟩, by have := HY.out; simp [intOf]; omega⟩
                    · have hie : i = n5 := by omega
                      have hq2 : decide (y < (n5 : Int)) = false := decide_eq_false (by have := HY.out; omega)
                      rw [show m.digs.take i = m.digs from by rw [hie, HN11.out]; exact List.take_length] at ST
                      clear hie hi hlt HY
                      have HCW := Lib.hid (HC.out.below ST.out.hb)
                      have HBY := Lib.hid (show (⟨(T4 ++ m.digs.flatMap digsI).toArray⟩ : ByteArray) = bodyB m from by
                        unfold bodyB bodyL headL flagN
                        rw [HF.out, HT4.out, HT3.out, HT2.out, HT1.out, HT0.out, HN7.out, HN8.out, HN9.out, HN10.out, HN11.out]
                        rfl)
                      have HNE := Lib.hid (show T4 ++ m.digs.flatMap digsI ≠ [] from by
                        intro h
                        have h1 := HBY.out
                        rw [h] at h1
                        exact body_ne m h1.symm)
                      go_wp2_with (fail)
                      refine start_ (n := 20) (S := fun w' => w'.cell? ⟨b, 0, none⟩ = some (.pointer (some ⟨c, 0, none⟩)) ∧ w'.cell? ⟨w.heap.size, 0, none⟩ = some (.int .u8 m.kind) ∧ w'.cell? ⟨w.heap.size, 1, none⟩ = some (.int .u8 m.fr) ∧ w'.cell? ⟨w.heap.size, 2, none⟩ = some (.int .u8 m.dst)) (ds := []) #[false, false, false, false, false, false, false, false, false, false, false, false, false, false, false, false, false, false, false, false] (by kernel_rfl) rfl rfl ⟨(at1 HCW.out.a).1, (blk_cell ST.out.az 0).trans rfl, (blk_cell ST.out.az 1).trans rfl, (blk_cell ST.out.az 2).trans rfl⟩ (fun hHeld => ?_)
                      replace ST := Lib.hid ST.out.drew
                      generalize wr.drew = w3' at ST hHeld ⊢
                      refine pure_ (i := 0) (N := some 177) (v := ?_) (a' := ?_) #[true, false, false, false, false, false, false, false, false, false, false, false, false, false, false, false, false, false, false, false] rfl rfl (by kernel_rfl) (fun _ _ _ h => h) (Or.inl ⟨by rfl, ?_⟩) ?_ ?_
                      rotate_left
                      · intro w'
                        go_simp
                        with_reducible rfl
                      rotate_left
                      · simp only [Act.put, List.setIfInBounds_toArray, List.set_cons_zero, List.set_cons_succ, i64_w, i32_w]
                        rfl
                      refine pure_ (i := 1) (N := some 178) (v := ?_) (a' := ?_) #[true, true, false, false, false, false, false, false, false, false, false, false, false, false, false, false, false, false, false, false] rfl rfl (by kernel_rfl) (fun _ _ _ h => h) (Or.inl ⟨by rfl, ?_⟩) ?_ ?_
                      rotate_left
                      · intro w'
                        go_simp
                        with_reducible rfl
                      rotate_left
                      · simp only [Act.put, List.setIfInBounds_toArray, List.set_cons_zero, List.set_cons_succ, i64_w, i32_w]
                        rfl
                      refine pure_ (i := 2) (N := some 179) (v := ?_) (a' := ?_) #[true, true, true, false, false, false, false, false, false, false, false, false, false, false, false, false, false, false, false, false] rfl rfl (by kernel_rfl) (fun _ _ _ h => h) (Or.inl ⟨by rfl, ?_⟩) ?_ ?_
                      rotate_left
                      · intro w'
                        go_simp
                        with_reducible rfl
                      rotate_left
                      · simp only [Act.put, List.setIfInBounds_toArray, List.set_cons_zero, List.set_cons_succ, i64_w, i32_w]
                        rfl
                      refine pure_ (i := 4) (N := some 181) (v := ?_) (a' := ?_) #[true, true, true, false, true, false, false, false, false, false, false, false, false, false, false, false, false, false, false, false] rfl rfl (by kernel_rfl) (fun _ _ _ h => h) (Or.inl ⟨by rfl, ?_⟩) ?_ ?_
                      rotate_left
                      · intro w'
                        go_simp
                        with_reducible rfl
                      rotate_left
                      · simp only [Act.put, List.setIfInBounds_toArray, List.set_cons_zero, List.set_cons_succ, i64_w, i32_w]
                        rfl
                      refine pure_ (i := 6) (N := some 183) (v := ?_) (a' := ?_) #[true, true, true, false, true, false, true, false, false, false, false, false, false, false, false, false, false, false, false, false] rfl rfl (by kernel_rfl) (fun _ _ _ h => h) (Or.inl ⟨by rfl, ?_⟩) ?_ ?_
                      rotate_left
                      · intro w'
                        go_simp
                        with_reducible rfl
                      rotate_left
                      · simp only [Act.put, List.setIfInBounds_toArray, List.set_cons_zero, List.set_cons_succ, i64_w, i32_w]
                        rfl
                      refine pure_ (i := 8) (N := some 185) (v := ?_) (a' := ?_) #[true, true, true, false, true, false, true, false, true, false, false, false, false, false, false, false, false, false, false, false] rfl rfl (by kernel_rfl) (fun _ _ _ h => h) (Or.inl ⟨by rfl, ?_⟩) ?_ ?_
                      rotate_left
                      · intro w'
                        go_simp
                        with_reducible rfl
                      rotate_left
                      · simp only [Act.put, List.setIfInBounds_toArray, List.set_cons_zero, List.set_cons_succ, i64_w, i32_w]
                        rfl
                      refine pure_ (i := 10) (N := some 187) (v := ?_) (a' := ?_) #[true, true, true, false, true, false, true, false, true, false, true, false, false, false, false, false, false, false, false, false] rfl rfl (by kernel_rfl) (fun _ _ _ h => h) (Or.inl ⟨by rfl, ?_⟩) ?_ ?_
                      rotate_left
                      · intro w'
                        go_simp
                        with_reducible rfl
                      rotate_left
                      · simp only [Act.put, List.setIfInBounds_toArray, List.set_cons_zero, List.set_cons_succ, i64_w, i32_w]
                        rfl
                      refine pure_ (i := 11) (N := some 188) (v := ?_) (a' := ?_) #[true, true, true, false, true, false, true, false, true, false, true, true, false, false, false, false, false, false, false, false] rfl rfl (by kernel_rfl) (fun _ _ _ h => h) (Or.inl ⟨by rfl, ?_⟩) ?_ ?_
                      rotate_left
                      · intro w'
                        go_simp
                        with_reducible rfl
                      rotate_left
                      · simp only [Act.put, List.setIfInBounds_toArray, List.set_cons_zero, List.set_cons_succ, i64_w, i32_w]
                        rfl
                      refine pure_ (i := 12) (N := some 189) (v := ?_) (a' := ?_) #[true, true, true, false, true, false, true, false, true, false, true, true, true, false, false, false, false, false, false, false] rfl rfl (by kernel_rfl) (fun _ _ _ h => h) (Or.inl ⟨by rfl, ?_⟩) ?_ ?_
                      rotate_left
                      · intro w'
                        go_simp
                        with_reducible rfl
                      rotate_left
                      · simp only [Act.put, List.setIfInBounds_toArray, List.set_cons_zero, List.set_cons_succ, i64_w, i32_w]
                        rfl
                      refine take_ (i := 3) (N := some 180) (v := ?_) (a' := ?_) #[true, true, true, true, true, false, true, false, true, false, true, true, true, false, false, false, false, false, false, false] rfl rfl (by kernel_rfl) (fun _ _ _ h => h) (Or.inl ⟨by rfl, ?_⟩) hHeld ?_ ?_
                      rotate_left
                      · rintro w' ⟨s0, s1, s2, s3⟩
                        go_simp
                        with_reducible rfl
                      rotate_left
                      · simp only [Act.put, List.setIfInBounds_toArray, List.set_cons_zero, List.set_cons_succ, i64_w, i32_w]
                        rfl
                      refine take_ (i := 5) (N := some 182) (v := ?_) (a' := ?_) #[true, true, true, true, true, true, true, false, true, false, true, true, true, false, false, false, false, false, false, false] rfl rfl (by kernel_rfl) (fun _ _ _ h => h) (Or.inl ⟨by rfl, ?_⟩) hHeld ?_ ?_
                      rotate_left
                      · rintro w' ⟨s0, s1, s2, s3⟩
                        go_simp
                        with_reducible rfl
                      rotate_left
                      · simp only [Act.put, List.setIfInBounds_toArray, List.set_cons_zero, List.set_cons_succ, i64_w, i32_w]
                        rfl
                      refine take_ (i := 7) (N := some 184) (v := ?_) (a' := ?_) #[true, true, true, true, true, true, true, true, true, false, true, true, true, false, false, false, false, false, false, false] rfl rfl (by kernel_rfl) (fun _ _ _ h => h) (Or.inl ⟨by rfl, ?_⟩) hHeld ?_ ?_
                      rotate_left
                      · rintro w' ⟨s0, s1, s2, s3⟩
                        go_simp
                        with_reducible rfl
                      rotate_left
                      · simp only [Act.put, List.setIfInBounds_toArray, List.set_cons_zero, List.set_cons_succ, i64_w, i32_w]
                        rfl
                      refine take_ (i := 9) (N := some 186) (v := ?_) (a' := ?_) #[true, true, true, true, true, true, true, true, true, true, true, true, true, false, false, false, false, false, false, false] rfl rfl (by kernel_rfl) (fun _ _ _ h => h) (Or.inl ⟨by rfl, ?_⟩) hHeld ?_ ?_
                      rotate_left
                      · rintro w' ⟨s0, s1, s2, s3⟩
                        go_simp
                        with_reducible rfl
                      rotate_left
                      · simp only [Act.put, List.setIfInBounds_toArray, List.set_cons_zero, List.set_cons_succ, i64_w, i32_w]
                        rfl
                      refine one_ (i := 13) (N := some 190) #[true, true, true, true, true, true, true, true, true, true, true, true, true, true, false, false, false, false, false, false] rfl rfl (by kernel_rfl) (by decide) (fun K hK => ?_)
                      refine goes_ Try.func24 (by kernel_rfl) rfl #[.pointer (some ⟨zb, 0, none⟩)] (by rfl) rfl rfl (by simp only [List.map_toArray, List.map_cons, List.map_nil]; rfl) ?_
                      with_reducible refine (ST.out.str HNE.out).mono ?_
                      rintro e w10 ⟨rfl, hb, hk⟩
                      refine ⟨_, rfl, ?_⟩
                      have AZ5 := Lib.hid (hk w.heap.size _ ST.out.az (fun e => ST.out.ne (Option.some.inj e)) (fun c fz e => by injection e with _ e _; cases e))
                      have HB5 := Lib.hid (below_from ST.out.hb hb)
                      have HC5 := Lib.hid (HC.out.below HB5.out)
                      rw [HBY.out]
                      clear hb hk ST
                      refine hK.out _ _ ⟨(at1 HC5.out.a).1, (blk_cell AZ5.out 0).trans rfl, (blk_cell AZ5.out 1).trans rfl, (blk_cell AZ5.out 2).trans rfl⟩ (fun hHeld => ?_)
                      clear hK K
                      refine norm_ (a' := ?_) ?_ ?_
                      rotate_left
                      · show Act.put _ (some 190) _ = _
                        simp only [Act.put, List.setIfInBounds_toArray, List.set_cons_zero, List.set_cons_succ, i64_w, i32_w]
                        rfl
                      refine pure_ (i := 14) (N := some 191) (v := ?_) (a' := ?_) #[true, true, true, true, true, true, true, true, true, true, true, true, true, true, true, false, false, false, false, false] rfl rfl (by kernel_rfl) (fun _ _ _ h => h) (Or.inl ⟨by rfl, ?_⟩) ?_ ?_
                      rotate_left
                      · intro w'
                        go_simp
                        with_reducible rfl
                      rotate_left
                      · simp only [Act.put, List.setIfInBounds_toArray, List.set_cons_zero, List.set_cons_succ, i64_w, i32_w]
                        rfl
                      refine one_ (i := 15) (N := some 192) #[true, true, true, true, true, true, true, true, true, true, true, true, true, true, true, true, false, false, false, false] rfl rfl (by kernel_rfl) (by decide) (fun K hK => ?_)
                      refine goes_ Try.func23 (by kernel_rfl) rfl #[.pointer (some ⟨c, 0, none⟩), .agg #[.int .u8 m.kind, .int .u8 m.fr, .int .u8 m.dst, .string (bodyB m)]] (by rfl) rfl rfl (by simp only [List.map_toArray, List.map_cons, List.map_nil]; rfl) ?_
                      with_reducible refine (HE.out _ HC5.out).mono ?_
                      rintro e w11 ⟨rfl, ht, hk⟩
                      refine ⟨_, rfl, ?_⟩
                      have HTB := Lib.hid ht
                      have HCH := Lib.hid (chg_step HB5.out hk)
                      have AZ6 := Lib.hid ((hk.block w.heap.size (blk_lt AZ5.out) (by have := Frame.isTab_lt HC.out.c.t; omega)).trans AZ5.out)
                      have HC6 := Lib.hid (HC5.out.chg ht hk)
                      clear ht hk AZ5 HB5 HC5
                      refine hK.out _ _ ⟨(at1 HC6.out.a).1, (blk_cell AZ6.out 0).trans rfl, (blk_cell AZ6.out 1).trans rfl, (blk_cell AZ6.out 2).trans rfl⟩ (fun hHeld => ?_)
                      clear hK K
                      refine norm_ (a' := ?_) ?_ ?_
                      rotate_left
                      · show Act.put _ (some 192) _ = _
                        simp only [Act.put, List.setIfInBounds_toArray, List.set_cons_zero, List.set_cons_succ, i64_w, i32_w]
                        rfl
                      refine pure_ (i := 16) (N := some 193) (v := ?_) (a' := ?_) #[true, true, true, true, true, true, true, true, true, true, true, true, true, true, true, true, true, false, false, false] rfl rfl (by kernel_rfl) (fun _ _ _ h => h) (Or.inl ⟨by rfl, ?_⟩) ?_ ?_
                      rotate_left
                      · intro w'
                        go_simp
                        with_reducible rfl
                      rotate_left
                      · simp only [Act.put, List.setIfInBounds_toArray, List.set_cons_zero, List.set_cons_succ, i64_w, i32_w]
                        rfl
                      refine pure_ (i := 17) (N := some 194) (v := ?_) (a' := ?_) #[true, true, true, true, true, true, true, true, true, true, true, true, true, true, true, true, true, true, false, false] rfl rfl (by kernel_rfl) (fun _ _ _ h => h) (Or.inl ⟨by rfl, ?_⟩) ?_ ?_
                      rotate_left
                      · intro w'
                        go_simp
                        with_reducible rfl
                      rotate_left
                      · simp only [Act.put, List.setIfInBounds_toArray, List.set_cons_zero, List.set_cons_succ, i64_w, i32_w]
                        rfl
                      refine pure_ (i := 18) (N := some 4) (v := ?_) (a' := ?_) #[true, true, true, true, true, true, true, true, true, true, true, true, true, true, true, true, true, true, true, false] rfl rfl (by kernel_rfl) (fun _ _ _ h => h) (Or.inl ⟨by rfl, ?_⟩) ?_ ?_
                      rotate_left
                      · intro w'
                        go_simp
                        with_reducible rfl
                      rotate_left
                      · simp only [Act.put, List.setIfInBounds_toArray, List.set_cons_zero, List.set_cons_succ, i64_w, i32_w]
                        rfl
                      refine pure_ (i := 19) (N := some 5) (v := ?_) (a' := ?_) #[true, true, true, true, true, true, true, true, true, true, true, true, true, true, true, true, true, true, true, true] rfl rfl (by kernel_rfl) (fun _ _ _ h => h) (Or.inl ⟨by rfl, ?_⟩) ?_ ?_
                      rotate_left
                      · intro w'
                        go_simp
                        with_reducible rfl
                      rotate_left
                      · simp only [Act.put, List.setIfInBounds_toArray, List.set_cons_zero, List.set_cons_succ, i64_w, i32_w]
                        rfl
                      refine done_ (by kernel_rfl) ?_
                      go_wp2_with (fail)
                      go_ret2
                      exact ⟨rfl, HTB.out, HCH.out⟩
end Go.Proofs.Ytdjompbhlkgmbaa.Msg
end

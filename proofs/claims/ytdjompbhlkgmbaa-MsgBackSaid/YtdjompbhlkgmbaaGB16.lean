/- What the row needs, laid together out of MsgUn, MsgPos (own texts and texts printed for this seat; wip/tools/group.py). -/
import Derived.Test.YtdjompbhlkgmbaaGB8
import Derived.Test.YtdjompbhlkgmbaaGB11
import Derived.Test.YtdjompbhlkgmbaaGB14
import Derived.Test.YtdjompbhlkgmbaaGB15
section
/- Unpack where all is right (own text; written by wip/tools/gen_msgun.py). -/
namespace Go.Proofs.Ytdjompbhlkgmbaa.Msg
open Go.RowKit Go.Proofs.Ytdjompbhlkgmbaa.Mem Go.Proofs.YtdjompbhlkgmbaaW.PrintWords Go.Proofs.YtdjompbhlkgmbaaW.PrintLast Go.Proofs.YtdjompbhlkgmbaaW.PrintMore Go.Proofs.Ytdjompbhlkgmbaa.PMsg
set_option linter.unusedVariables false
set_option linter.unusedSimpArgs false
/-- A row of new blocks, beside what still turns. -/
def RV {α : Type} (d : Kd α) (e z4 z5 zr : Nat) (w : World) (v : Value) (xs : List α) : Prop := ∃ B, (z4 < B ∧ z5 < B ∧ zr < B) ∧ Kd.R d e w B (fun k => B ≤ k) v xs
theorem RV.step {α : Type} {d : Kd α} {e z4 z5 zr : Nat} {w w1 : World} {v : Value} {xs : List α} (h : RV d e z4 z5 zr w v xs) (k : Chg (fun x => x = z4 ∨ x = z5 ∨ x = zr) w w1) : RV d e z4 z5 zr w1 v xs := by
  obtain ⟨B, hB, hr⟩ := h
  exact ⟨B, hB, Kd.R_step hr (fun j hj hl => k.block j hl (fun g => by omega))⟩
/-- What list comes to where all is right. -/
def ListIs {α : Type} (f g : Nat) (d : Kd α) (e : Nat) (body : ByteArray) (q q' : Int) (l : List α) : Prop :=
  ∀ (zr : Nat) (W : World), At W zr #[.string body, .int .i64 q] 89 → Calls Try.prog f #[.pointer (some ⟨zr, 0, none⟩), .func (.func g) #[.pointer (some ⟨zr, 0, none⟩)] #[]] W fun e' w' => ∃ v, e' = .returned v ∧ Kd.R d e w' W.heap.size (fun k => W.heap.size ≤ k) v l ∧ At w' zr #[.string body, .int .i64 q'] 89 ∧ Chg (fun x => x = zr) W w'
set_option maxRecDepth 100000 in
set_option maxHeartbeats 1000000 in
theorem unpack_is (b c tb : Nat) (S body : ByteArray) (kk ff tt : Nat) (id tg rg F p1 p2 p3 p4 p5 p6 p7 p8 : Int) (fl : Bool) (l7 : List S72) (l8 : List ByteArray) (l9 : List S54) (l10 : List S56) (l11 : List Int) (w : World) (hc : MCod w b c tb) (hS : S.size ≤ 999000) (hd : Frame.decR S = (kk, ff, tt, body, 0)) (hbz : body.size ≤ 900000)
    (n1 : numR body 0 0 4294967295 = (id, p1, 0)) (n2 : numR body p1 0 63 = (tg, p2, 0)) (n3 : numR body p2 0 63 = (rg, p3, 0)) (n4 : numR body p3 0 1 = (F, p4, 0)) (hid : 0 ≤ id ∧ id ≤ 4294967295) (htg : 0 ≤ tg ∧ tg ≤ 63) (hrg : 0 ≤ rg ∧ rg ≤ 63) (hF : (F == 1) = fl)
    (L7 : ListIs 30 31 k72 72 body p4 p5 l7) (L8 : ListIs 32 33 Kd.string 9 body p5 p6 l8) (L9 : ListIs 34 35 k54 54 body p6 p7 l9) (L10 : ListIs 36 37 k56 56 body p7 p8 l10) (L11 : ListIs 38 39 (Kd.int .u64) 50 body p8 (body.size : Int) l11) :
    Calls Try.prog 12 #[.pointer (some ⟨b, 0, none⟩), .string S] w fun e w' => ∃ A7 g7 A8 g8 A9 g9 A10 g10 A11 g11, e = .returned (.tuple #[.agg #[.int .u8 (kk : Int), .int .u8 (ff : Int), .int .u8 (tt : Int), .int .u32 id, .int .u8 tg, .int .u8 rg, .bool fl, .slice A7 l7.length g7, .slice A8 l8.length g8, .slice A9 l9.length g9, .slice A10 l10.length g10, .slice A11 l11.length g11], .int .i64 0]) ∧ (∀ w1 : World, Chg (fun x => x < w.heap.size) w' w1 → HasM ⟨kk, ff, tt, id, tg, rg, fl, l7, l8, l9, l10, l11⟩ A7 g7 A8 g8 A9 g9 A10 g10 A11 g11 w1) ∧ Sum.IsTab w' tb ∧ Chg (fun x => x = tb) w w' := by
  have hmf : ∀ (fn : Fn) (first cap : Array Value) (w : World), (Instr.makeFunc fn first cap).run Try.prog w = .ok (.func fn first cap) w := fun _ _ _ _ => rfl
  have HC := Lib.hid hc
  have HSZ := Lib.hid (show body.size ≤ maxLen from by unfold maxLen; omega)
  have N1 := Lib.hid n1
  have N2 := Lib.hid n2
  have N3 := Lib.hid n3
  have N4 := Lib.hid n4
  have LL7 := Lib.hid L7
  have LL8 := Lib.hid L8
  have LL9 := Lib.hid L9
  have LL10 := Lib.hid L10
  have LL11 := Lib.hid L11
  have HV := Lib.hid (show IntKind.u32.wrap id = id ∧ IntKind.u8.wrap tg = tg ∧ IntKind.u8.wrap rg = rg ∧ (F == 1) = fl from ⟨IntWalk.u32_in _ hid, IntWalk.u8_in _ ⟨by omega, by omega⟩, IntWalk.u8_in _ ⟨by omega, by omega⟩, hF⟩)
  have DE := Lib.hid (show ∀ (W : World) (h : Frame.Cod W c tb), Calls Try.prog 27 #[.pointer (some ⟨c, 0, none⟩), .string S] W fun e w' => e = .returned (.tuple #[.agg #[.int .u8 (kk : Int), .int .u8 (ff : Int), .int .u8 (tt : Int), .string body], .int .i64 0]) ∧ Sum.IsTab w' tb ∧ Chg (fun x => x = tb) W w' from fun W h => by
    have := Frame.pdec c tb S W h hS
    rw [hd] at this
    exact this)
  clear hc hd hS n1 n2 n3 n4 L7 L8 L9 L10 L11 hid htg hrg hF hbz
  go_enter_defers Try.func12, Try.ntmps12
  go_upto_region 3 with (fail)
  have AZ := Lib.hid (at_alloc (o := .cells #[.int .i64 0] 32) (at_new w #[.int .u8 0, .int .u8 0, .int .u8 0, .int .u32 0, .int .u8 0, .int .u8 0, .bool false, .slice none 0 0, .slice none 0 0, .slice none 0 0, .slice none 0 0, .slice none 0 0] 29))
  have AE := Lib.hid (at_new (w.alloc (.cells #[.int .u8 0, .int .u8 0, .int .u8 0, .int .u32 0, .int .u8 0, .int .u8 0, .bool false, .slice none 0 0, .slice none 0 0, .slice none 0 0, .slice none 0 0, .slice none 0 0] 29)) #[.int .i64 0] 32)
  rw [World.size_alloc] at AE
  have HB := Lib.hid (below_alloc (below_alloc (Below.refl w.heap.size w) (.cells #[.int .u8 0, .int .u8 0, .int .u8 0, .int .u32 0, .int .u8 0, .int .u8 0, .bool false, .slice none 0 0, .slice none 0 0, .slice none 0 0, .slice none 0 0, .slice none 0 0] 29)) (.cells #[.int .i64 0] 32))
  generalize (w.alloc (.cells #[.int .u8 0, .int .u8 0, .int .u8 0, .int .u32 0, .int .u8 0, .int .u8 0, .bool false, .slice none 0 0, .slice none 0 0, .slice none 0 0, .slice none 0 0, .slice none 0 0] 29)).alloc (.cells #[.int .i64 0] 32) = w1 at *
  have HTL := Lib.hid (Frame.isTab_lt HC.out.c.t)
  have HC1 := Lib.hid (HC.out.below HB.out)
  clear HC
  obtain ⟨z4, hz4⟩ : ∃ z, z = w.heap.size := ⟨_, rfl⟩
  obtain ⟨z5, hz5⟩ : ∃ z, z = w.heap.size + 1 := ⟨_, rfl⟩
  have HZ := Lib.hid (show (z4 ≠ z5 ∧ tb < z4 ∧ tb < z5) ∧ w.heap.size ≤ z4 ∧ w.heap.size ≤ z5 from by have := HTL.out; omega)
  rw [← hz5] at AE
  rw [← hz4] at AZ
  rw [← hz5, ← hz4]
  have HK := Lib.hid (chg_below (chg_refl (fun x => x = tb) w) HB.out)
  clear HB hz4 hz5
  have ec : w1.cell? ⟨b, 0, none⟩ = some (.pointer (some ⟨c, 0, none⟩)) := HC1.out.a.cell 0
  have e5 : w1.cell? ⟨z5, 0, none⟩ = some (.int .i64 0) := AE.out.cell 0
  go_upto_region 4 with (go_at_call 27; (with_reducible refine (DE.out _ HC1.out.c).mono ?_); rintro e w2 ⟨rfl, ht, hk⟩; have HC2 := Lib.hid (HC1.out.chg ht hk); have AZ2 := Lib.hid (at_chg AZ.out hk (by have := HZ.out; omega)); have AE2 := Lib.hid (at_chg AE.out hk (by have := HZ.out; omega)); have HK2 := Lib.hid (chg_then HK.out hk); clear ht hk HC1 AZ AE HK; have AE3 := Lib.hid (at_alloc (o := .cells #[.int .u8 (kk : Int), .int .u8 (ff : Int), .int .u8 (tt : Int), .string body] 46) AE2.out); have e5' := AE3.out.cell 0; have f5' := AE3.out.free 0; simp only [List.getElem?_toArray, List.getElem?_cons_zero] at e5')
  have HL2 := Lib.hid (show z4 < w2.heap.size ∧ z5 < w2.heap.size from ⟨AZ2.out.lt, AE2.out.lt⟩)
  have AF3 := Lib.hid (at_set_ne (b' := z5) (i := 0) (v := .int .i64 0) (at_new w2 #[.int .u8 (kk : Int), .int .u8 (ff : Int), .int .u8 (tt : Int), .string body] 46) (by have := HL2.out; omega))
  have AZ3 := Lib.hid (at_set_ne (b' := z5) (i := 0) (v := .int .i64 0) (at_alloc (o := .cells #[.int .u8 (kk : Int), .int .u8 (ff : Int), .int .u8 (tt : Int), .string body] 46) AZ2.out) HZ.out.1.1)
  replace AE3 := Lib.hid (at_set (i := 0) (v := .int .i64 0) AE3.out)
  have KX3 := Lib.hid (chg_set (b := z5) (i := 0) (v := .int .i64 0) (chg_alloc (o := .cells #[.int .u8 (kk : Int), .int .u8 (ff : Int), .int .u8 (tt : Int), .string body] 46) (chg_refl (fun x => w.heap.size ≤ x) w2)) HZ.out.2.2)
  have HT2 := Lib.hid HC2.out.c.t
  clear HC2 AZ2 AE2
  generalize ((w2.alloc (.cells #[.int .u8 (kk : Int), .int .u8 (ff : Int), .int .u8 (tt : Int), .string body] 46)).setCell ⟨z5, 0, none⟩ (.int .i64 0)) = w3 at *
  have HF := Lib.hid (show w2.heap.size ≠ z4 ∧ w2.heap.size ≠ z5 ∧ w.heap.size ≤ w2.heap.size from ⟨by have := HL2.out; omega, by have := HL2.out; omega, HK2.out.size⟩)
  clear HL2
  obtain ⟨zf, hzf⟩ : ∃ z, z = w2.heap.size := ⟨_, rfl⟩
  rw [← hzf] at AF3 HF
  rw [← hzf]
  clear hzf
  have e6 : w3.cell? ⟨z5, 0, none⟩ = some (.int .i64 0) := AE3.out.cell 0
  have e7 : w3.cell? ⟨zf, 3, none⟩ = some (.string body) := AF3.out.cell 3
  go_upto_region 8 with (fail)
  have HL3 := Lib.hid (show (z4 < w3.heap.size ∧ z5 < w3.heap.size ∧ zf < w3.heap.size) from ⟨AZ3.out.lt, AE3.out.lt, AF3.out.lt⟩)
  have AR := Lib.hid (at_new w3 #[.string body, .int .i64 0] 89)
  have AZ := Lib.hid (at_alloc (o := .cells #[.string body, .int .i64 0] 89) AZ3.out)
  have AE := Lib.hid (at_alloc (o := .cells #[.string body, .int .i64 0] 89) AE3.out)
  have AF := Lib.hid (at_alloc (o := .cells #[.string body, .int .i64 0] 89) AF3.out)
  have KX := Lib.hid (chg_alloc (o := .cells #[.string body, .int .i64 0] 89) KX3.out)
  clear AZ3 AE3 AF3 KX3
  generalize (w3.alloc (.cells #[.string body, .int .i64 0] 89)) = w4 at *
  have HR := Lib.hid (show (z4 ≠ w3.heap.size ∧ z5 ≠ w3.heap.size ∧ zf ≠ w3.heap.size) ∧ w.heap.size ≤ w3.heap.size from by have := HL3.out; have := HZ.out; omega)
  clear HL3
  obtain ⟨zr, hzr⟩ : ∃ z, z = w3.heap.size := ⟨_, rfl⟩
  rw [← hzr] at AR HR
  rw [← hzr]
  clear hzr
  refine start_ (n := 20) (S := fun w' => w'.cell? ⟨zf, 0, none⟩ = some (.int .u8 (kk : Int)) ∧ w'.cell? ⟨zf, 1, none⟩ = some (.int .u8 (ff : Int)) ∧ w'.cell? ⟨zf, 2, none⟩ = some (.int .u8 (tt : Int))) (ds := [19]) #[false, false, false, false, false, false, false, false, false, false, false, false, false, false, false, false, false, false, false, false] (by kernel_rfl) rfl rfl ⟨AF.out.cell 0, AF.out.cell 1, AF.out.cell 2⟩ (fun hHeld => ?_)
  replace AR := Lib.hid (at_drew AR.out)
  replace AZ := Lib.hid (at_drew AZ.out)
  replace AE := Lib.hid (at_drew AE.out)
  replace AF := Lib.hid (at_drew AF.out)
  replace KX := Lib.hid (chg_drew KX.out)
  generalize w4.drew = w5 at AR AZ AE AF KX hHeld ⊢
  refine pure_ (i := 0) (N := some 29) (v := ?_) (a' := ?_) #[true, false, false, false, false, false, false, false, false, false, false, false, false, false, false, false, false, false, false, false] rfl rfl (by kernel_rfl) (by intro _ _ _ h; exact put12 (d := 29) (by decide) (by decide) h) (Or.inl ⟨by rfl, ?_⟩) ?_ ?_
  rotate_left
  · intro w'
    go_simp
    with_reducible rfl
  rotate_left
  · simp only [Act.put, List.setIfInBounds_toArray, List.set_cons_zero, List.set_cons_succ, i64_w, i32_w]
    rfl
  refine pure_ (i := 2) (N := some 31) (v := ?_) (a' := ?_) #[true, false, true, false, false, false, false, false, false, false, false, false, false, false, false, false, false, false, false, false] rfl rfl (by kernel_rfl) (by intro _ _ _ h; exact put12 (d := 31) (by decide) (by decide) h) (Or.inl ⟨by rfl, ?_⟩) ?_ ?_
  rotate_left
  · intro w'
    go_simp
    with_reducible rfl
  rotate_left
  · simp only [Act.put, List.setIfInBounds_toArray, List.set_cons_zero, List.set_cons_succ, i64_w, i32_w]
    rfl
  refine pure_ (i := 4) (N := some 33) (v := ?_) (a' := ?_) #[true, false, true, false, true, false, false, false, false, false, false, false, false, false, false, false, false, false, false, false] rfl rfl (by kernel_rfl) (by intro _ _ _ h; exact put12 (d := 33) (by decide) (by decide) h) (Or.inl ⟨by rfl, ?_⟩) ?_ ?_
  rotate_left
  · intro w'
    go_simp
    with_reducible rfl
  rotate_left
  · simp only [Act.put, List.setIfInBounds_toArray, List.set_cons_zero, List.set_cons_succ, i64_w, i32_w]
    rfl
  refine pure_ (i := 6) (N := some 35) (v := ?_) (a' := ?_) #[true, false, true, false, true, false, true, false, false, false, false, false, false, false, false, false, false, false, false, false] rfl rfl (by kernel_rfl) (by intro _ _ _ h; exact put12 (d := 35) (by decide) (by decide) h) (Or.inl ⟨by rfl, ?_⟩) ?_ ?_
  rotate_left
  · intro w'
    go_simp
    with_reducible rfl
  rotate_left
  · simp only [Act.put, List.setIfInBounds_toArray, List.set_cons_zero, List.set_cons_succ, i64_w, i32_w]
    rfl
  refine pure_ (i := 9) (N := some 38) (v := ?_) (a' := ?_) #[true, false, true, false, true, false, true, false, false, true, false, false, false, false, false, false, false, false, false, false] rfl rfl (by kernel_rfl) (by intro _ _ _ h; exact put12 (d := 38) (by decide) (by decide) h) (Or.inl ⟨by rfl, ?_⟩) ?_ ?_
  rotate_left
  · intro w'
    go_simp
    with_reducible rfl
  rotate_left
  · simp only [Act.put, List.setIfInBounds_toArray, List.set_cons_zero, List.set_cons_succ, i64_w, i32_w]
    rfl
  refine pure_ (i := 12) (N := some 41) (v := ?_) (a' := ?_) #[true, false, true, false, true, false, true, false, false, true, false, false, true, false, false, false, false, false, false, false] rfl rfl (by kernel_rfl) (by intro _ _ _ h; exact put12 (d := 41) (by decide) (by decide) h) (Or.inl ⟨by rfl, ?_⟩) ?_ ?_
  rotate_left
  · intro w'
    go_simp
    with_reducible rfl
  rotate_left
  · simp only [Act.put, List.setIfInBounds_toArray, List.set_cons_zero, List.set_cons_succ, i64_w, i32_w]
    rfl
  refine pure_ (i := 15) (N := some 44) (v := ?_) (a' := ?_) #[true, false, true, false, true, false, true, false, false, true, false, false, true, false, false, true, false, false, false, false] rfl rfl (by kernel_rfl) (by intro _ _ _ h; exact put12 (d := 44) (by decide) (by decide) h) (Or.inl ⟨by rfl, ?_⟩) ?_ ?_
  rotate_left
  · intro w'
    go_simp
    with_reducible rfl
  rotate_left
  · simp only [Act.put, List.setIfInBounds_toArray, List.set_cons_zero, List.set_cons_succ, i64_w, i32_w]
    rfl
  refine take_ (i := 1) (N := some 30) (v := ?_) (a' := ?_) #[true, true, true, false, true, false, true, false, false, true, false, false, true, false, false, true, false, false, false, false] rfl rfl (by kernel_rfl) (by intro _ _ _ h; exact put12 (d := 30) (by decide) (by decide) h) (Or.inl ⟨by rfl, ?_⟩) hHeld ?_ ?_
  rotate_left
  · rintro w' ⟨s0, s1, s2⟩
    go_simp
    with_reducible rfl
  rotate_left
  · simp only [Act.put, List.setIfInBounds_toArray, List.set_cons_zero, List.set_cons_succ, i64_w, i32_w]
    rfl
  refine take_ (i := 3) (N := some 32) (v := ?_) (a' := ?_) #[true, true, true, true, true, false, true, false, false, true, false, false, true, false, false, true, false, false, false, false] rfl rfl (by kernel_rfl) (by intro _ _ _ h; exact put12 (d := 32) (by decide) (by decide) h) (Or.inl ⟨by rfl, ?_⟩) hHeld ?_ ?_
  rotate_left
  · rintro w' ⟨s0, s1, s2⟩
    go_simp
    with_reducible rfl
  rotate_left
  · simp only [Act.put, List.setIfInBounds_toArray, List.set_cons_zero, List.set_cons_succ, i64_w, i32_w]
    rfl
  refine take_ (i := 5) (N := some 34) (v := ?_) (a' := ?_) #[true, true, true, true, true, true, true, false, false, true, false, false, true, false, false, true, false, false, false, false] rfl rfl (by kernel_rfl) (by intro _ _ _ h; exact put12 (d := 34) (by decide) (by decide) h) (Or.inl ⟨by rfl, ?_⟩) hHeld ?_ ?_
  rotate_left
  · rintro w' ⟨s0, s1, s2⟩
    go_simp
    with_reducible rfl
  rotate_left
  · simp only [Act.put, List.setIfInBounds_toArray, List.set_cons_zero, List.set_cons_succ, i64_w, i32_w]
    rfl
  refine one_ (i := 7) (N := some 36) #[true, true, true, true, true, true, true, true, false, true, false, false, true, false, false, true, false, false, false, false] rfl rfl (by kernel_rfl) (by decide) (fun K hK => ?_)
  refine goes_ Try.func29 (by kernel_rfl) rfl #[.pointer (some ⟨zr, 0, none⟩), .int .u64 0, .int .u64 4294967295] (by rfl) rfl rfl (by simp only [List.map_toArray, List.map_cons, List.map_nil]; rfl) ?_
  with_reducible refine (rnum_is zr body _ _ _ _ _ N1.out HSZ.out _ AR.out).mono ?_
  rintro e w11 ⟨rfl, ha, hk⟩
  refine ⟨_, rfl, ?_⟩
  have AR11 := Lib.hid ha
  have AZ11 := Lib.hid (at_chg AZ.out hk HR.out.1.1)
  have AE11 := Lib.hid (at_chg AE.out hk HR.out.1.2.1)
  have AF11 := Lib.hid (at_chg AF.out hk HR.out.1.2.2)
  have KX11 := Lib.hid (chg_then KX.out (chg_le hk (fun x e => by rw [e]; exact HR.out.2)))
  clear ha hk AR AZ AE AF KX
  refine hK.out _ _ ⟨AF11.out.cell 0, AF11.out.cell 1, AF11.out.cell 2⟩ (fun hHeld => ?_)
  clear hK K
  refine norm_ (a' := ?_) ?_ ?_
  rotate_left
  · show Act.put _ (some 36) _ = _
    simp only [Act.put, List.setIfInBounds_toArray, List.set_cons_zero, List.set_cons_succ, i64_w, i32_w]
    rfl
  refine pure_ (i := 8) (N := some 37) (v := ?_) (a' := ?_) #[true, true, true, true, true, true, true, true, true, true, false, false, true, false, false, true, false, false, false, false] rfl rfl (by kernel_rfl) (by intro _ _ _ h; exact put12 (d := 37) (by decide) (by decide) h) (Or.inl ⟨by rfl, ?_⟩) ?_ ?_
  rotate_left
  · intro w'
    go_simp
    with_reducible rfl
  rotate_left
  · simp only [Act.put, List.setIfInBounds_toArray, List.set_cons_zero, List.set_cons_succ, i64_w, i32_w]
    rfl
  refine one_ (i := 10) (N := some 39) #[true, true, true, true, true, true, true, true, true, true, true, false, true, false, false, true, false, false, false, false] rfl rfl (by kernel_rfl) (by decide) (fun K hK => ?_)
  refine goes_ Try.func29 (by kernel_rfl) rfl #[.pointer (some ⟨zr, 0, none⟩), .int .u64 0, .int .u64 63] (by rfl) rfl rfl (by simp only [List.map_toArray, List.map_cons, List.map_nil]; rfl) ?_
  with_reducible refine (rnum_is zr body _ _ _ _ _ N2.out HSZ.out _ AR11.out).mono ?_
  rintro e w12 ⟨rfl, ha, hk⟩
  refine ⟨_, rfl, ?_⟩
  have AR12 := Lib.hid ha
  have AZ12 := Lib.hid (at_chg AZ11.out hk HR.out.1.1)
  have AE12 := Lib.hid (at_chg AE11.out hk HR.out.1.2.1)
  have AF12 := Lib.hid (at_chg AF11.out hk HR.out.1.2.2)
  have KX12 := Lib.hid (chg_then KX11.out (chg_le hk (fun x e => by rw [e]; exact HR.out.2)))
  clear ha hk AR11 AZ11 AE11 AF11 KX11
  refine hK.out _ _ ⟨AF12.out.cell 0, AF12.out.cell 1, AF12.out.cell 2⟩ (fun hHeld => ?_)
  clear hK K
  refine norm_ (a' := ?_) ?_ ?_
  rotate_left
  · show Act.put _ (some 39) _ = _
    simp only [Act.put, List.setIfInBounds_toArray, List.set_cons_zero, List.set_cons_succ, i64_w, i32_w]
    rfl
  refine pure_ (i := 11) (N := some 40) (v := ?_) (a' := ?_) #[true, true, true, true, true, true, true, true, true, true, true, true, true, false, false, true, false, false, false, false] rfl rfl (by kernel_rfl) (by intro _ _ _ h; exact put12 (d := 40) (by decide) (by decide) h) (Or.inl ⟨by rfl, ?_⟩) ?_ ?_
  rotate_left
  · intro w'
    go_simp
    with_reducible rfl
  rotate_left
  · simp only [Act.put, List.setIfInBounds_toArray, List.set_cons_zero, List.set_cons_succ, i64_w, i32_w]
    rfl
  refine one_ (i := 13) (N := some 42) #[true, true, true, true, true, true, true, true, true, true, true, true, true, true, false, true, false, false, false, false] rfl rfl (by kernel_rfl) (by decide) (fun K hK => ?_)
  refine goes_ Try.func29 (by kernel_rfl) rfl #[.pointer (some ⟨zr, 0, none⟩), .int .u64 0, .int .u64 63] (by rfl) rfl rfl (by simp only [List.map_toArray, List.map_cons, List.map_nil]; rfl) ?_
  with_reducible refine (rnum_is zr body _ _ _ _ _ N3.out HSZ.out _ AR12.out).mono ?_
  rintro e w13 ⟨rfl, ha, hk⟩
  refine ⟨_, rfl, ?_⟩
  have AR13 := Lib.hid ha
  have AZ13 := Lib.hid (at_chg AZ12.out hk HR.out.1.1)
  have AE13 := Lib.hid (at_chg AE12.out hk HR.out.1.2.1)
  have AF13 := Lib.hid (at_chg AF12.out hk HR.out.1.2.2)
  have KX13 := Lib.hid (chg_then KX12.out (chg_le hk (fun x e => by rw [e]; exact HR.out.2)))
  clear ha hk AR12 AZ12 AE12 AF12 KX12
  refine hK.out _ _ ⟨AF13.out.cell 0, AF13.out.cell 1, AF13.out.cell 2⟩ (fun hHeld => ?_)
  clear hK K
  refine norm_ (a' := ?_) ?_ ?_
  rotate_left
  · show Act.put _ (some 42) _ = _
    simp only [Act.put, List.setIfInBounds_toArray, List.set_cons_zero, List.set_cons_succ, i64_w, i32_w]
    rfl
  refine pure_ (i := 14) (N := some 43) (v := ?_) (a' := ?_) #[true, true, true, true, true, true, true, true, true, true, true, true, true, true, true, true, false, false, false, false] rfl rfl (by kernel_rfl) (by intro _ _ _ h; exact put12 (d := 43) (by decide) (by decide) h) (Or.inl ⟨by rfl, ?_⟩) ?_ ?_
  rotate_left
  · intro w'
    go_simp
    with_reducible rfl
  rotate_left
  · simp only [Act.put, List.setIfInBounds_toArray, List.set_cons_zero, List.set_cons_succ, i64_w, i32_w]
    rfl
  refine one_ (i := 16) (N := some 45) #[true, true, true, true, true, true, true, true, true, true, true, true, true, true, true, true, true, false, false, false] rfl rfl (by kernel_rfl) (by decide) (fun K hK => ?_)
  refine goes_ Try.func29 (by kernel_rfl) rfl #[.pointer (some ⟨zr, 0, none⟩), .int .u64 0, .int .u64 1] (by rfl) rfl rfl (by simp only [List.map_toArray, List.map_cons, List.map_nil]; rfl) ?_
  with_reducible refine (rnum_is zr body _ _ _ _ _ N4.out HSZ.out _ AR13.out).mono ?_
  rintro e w14 ⟨rfl, ha, hk⟩
  refine ⟨_, rfl, ?_⟩
  have AR14 := Lib.hid ha
  have AZ14 := Lib.hid (at_chg AZ13.out hk HR.out.1.1)
  have AE14 := Lib.hid (at_chg AE13.out hk HR.out.1.2.1)
  have AF14 := Lib.hid (at_chg AF13.out hk HR.out.1.2.2)
  have KX14 := Lib.hid (chg_then KX13.out (chg_le hk (fun x e => by rw [e]; exact HR.out.2)))
  clear ha hk AR13 AZ13 AE13 AF13 KX13
  have ee0 : w14.cell? ⟨z4, 0, none⟩ = some (.int .u8 0) := AZ14.out.cell 0
  have ee1 : w14.cell? ⟨z4, 1, none⟩ = some (.int .u8 0) := AZ14.out.cell 1
  have ee2 : w14.cell? ⟨z4, 2, none⟩ = some (.int .u8 0) := AZ14.out.cell 2
  have ee3 : w14.cell? ⟨z4, 3, none⟩ = some (.int .u32 0) := AZ14.out.cell 3
  have ee4 : w14.cell? ⟨z4, 4, none⟩ = some (.int .u8 0) := AZ14.out.cell 4
  have ee5 : w14.cell? ⟨z4, 5, none⟩ = some (.int .u8 0) := AZ14.out.cell 5
  have ee6 : w14.cell? ⟨z4, 6, none⟩ = some (.bool false) := AZ14.out.cell 6
  have ee7 : w14.cell? ⟨z4, 7, none⟩ = some (.slice none 0 0) := AZ14.out.cell 7
  have ee8 : w14.cell? ⟨z4, 8, none⟩ = some (.slice none 0 0) := AZ14.out.cell 8
  have ee9 : w14.cell? ⟨z4, 9, none⟩ = some (.slice none 0 0) := AZ14.out.cell 9
  have ee10 : w14.cell? ⟨z4, 10, none⟩ = some (.slice none 0 0) := AZ14.out.cell 10
  have ee11 : w14.cell? ⟨z4, 11, none⟩ = some (.slice none 0 0) := AZ14.out.cell 11
  have ff0 : w14.frozen? ⟨z4, 0, none⟩ = false := AZ14.out.free 0
  have ff1 : w14.frozen? ⟨z4, 1, none⟩ = false := AZ14.out.free 1
  have ff2 : w14.frozen? ⟨z4, 2, none⟩ = false := AZ14.out.free 2
  have ff3 : w14.frozen? ⟨z4, 3, none⟩ = false := AZ14.out.free 3
  have ff4 : w14.frozen? ⟨z4, 4, none⟩ = false := AZ14.out.free 4
  have ff5 : w14.frozen? ⟨z4, 5, none⟩ = false := AZ14.out.free 5
  have ff6 : w14.frozen? ⟨z4, 6, none⟩ = false := AZ14.out.free 6
  have ff7 : w14.frozen? ⟨z4, 7, none⟩ = false := AZ14.out.free 7
  have ff8 : w14.frozen? ⟨z4, 8, none⟩ = false := AZ14.out.free 8
  have ff9 : w14.frozen? ⟨z4, 9, none⟩ = false := AZ14.out.free 9
  have ff10 : w14.frozen? ⟨z4, 10, none⟩ = false := AZ14.out.free 10
  have ff11 : w14.frozen? ⟨z4, 11, none⟩ = false := AZ14.out.free 11
  refine hK.out _ _ ⟨AF14.out.cell 0, AF14.out.cell 1, AF14.out.cell 2⟩ (fun hHeld => ?_)
  clear hK K
  refine norm_ (a' := ?_) ?_ ?_
  rotate_left
  · show Act.put _ (some 45) _ = _
    simp only [Act.put, List.setIfInBounds_toArray, List.set_cons_zero, List.set_cons_succ, i64_w, i32_w]
    rfl
  refine pure_ (i := 17) (N := some 46) (v := ?_) (a' := ?_) #[true, true, true, true, true, true, true, true, true, true, true, true, true, true, true, true, true, true, false, false] rfl rfl (by kernel_rfl) (by intro _ _ _ h; exact put12 (d := 46) (by decide) (by decide) h) (Or.inl ⟨by rfl, ?_⟩) ?_ ?_
  rotate_left
  · intro w'
    go_simp
    with_reducible rfl
  rotate_left
  · simp only [Act.put, List.setIfInBounds_toArray, List.set_cons_zero, List.set_cons_succ, i64_w, i32_w]
    rfl
  refine pure_ (i := 18) (N := some 47) (v := ?_) (a' := ?_) #[true, true, true, true, true, true, true, true, true, true, true, true, true, true, true, true, true, true, true, false] rfl rfl (by kernel_rfl) (by intro _ _ _ h; exact put12 (d := 47) (by decide) (by decide) h) (Or.inl ⟨by rfl, ?_⟩) ?_ ?_
  rotate_left
  · intro w'
    go_simp
    with_reducible rfl
  rotate_left
  · simp only [Act.put, List.setIfInBounds_toArray, List.set_cons_zero, List.set_cons_succ, i64_w, i32_w]
    rfl
  refine last_ (i := 19) (N := none) #[true, true, true, true, true, true, true, true, true, true, true, true, true, true, true, true, true, true, true, true] rfl rfl (by kernel_rfl) (by decide) (fun K hK => ?_)
  refine skip_ (w1 := ?_) (by rfl) rfl ?_ ?_
  rotate_left
  · go_simp
    rfl
  refine hK.out _ _ ?_
  clear hK K
  refine done_ (by kernel_rfl) ?_
  have azf : At (((((((((((((w14.setCell ⟨z4, 0, none⟩ (.int .u8 (kk : Int))).setCell ⟨z4, 1, none⟩ (.int .u8 (ff : Int))).setCell ⟨z4, 2, none⟩ (.int .u8 (tt : Int))).setCell ⟨z4, 3, none⟩ (.int .u32 (IntKind.u32.wrap id))).setCell ⟨z4, 4, none⟩ (.int .u8 (IntKind.u8.wrap tg))).setCell ⟨z4, 5, none⟩ (.int .u8 (IntKind.u8.wrap rg))).setCell ⟨z4, 6, none⟩ (.bool (F == 1))).setCell ⟨z4, 7, none⟩ (.slice none 0 0)).setCell ⟨z4, 8, none⟩ (.slice none 0 0)).setCell ⟨z4, 9, none⟩ (.slice none 0 0)).setCell ⟨z4, 10, none⟩ (.slice none 0 0)).setCell ⟨z4, 11, none⟩ (.slice none 0 0))) z4 #[.int .u8 (kk : Int), .int .u8 (ff : Int), .int .u8 (tt : Int), .int .u32 (IntKind.u32.wrap id), .int .u8 (IntKind.u8.wrap tg), .int .u8 (IntKind.u8.wrap rg), .bool (F == 1), .slice none 0 0, .slice none 0 0, .slice none 0 0, .slice none 0 0, .slice none 0 0] 29 := at_set12 AZ14.out
  have AE := Lib.hid (at_set12_ne (v0 := .int .u8 (kk : Int)) (v1 := .int .u8 (ff : Int)) (v2 := .int .u8 (tt : Int)) (v3 := .int .u32 (IntKind.u32.wrap id)) (v4 := .int .u8 (IntKind.u8.wrap tg)) (v5 := .int .u8 (IntKind.u8.wrap rg)) (v6 := .bool (F == 1)) (v7 := .slice none 0 0) (v8 := .slice none 0 0) (v9 := .slice none 0 0) (v10 := .slice none 0 0) (v11 := .slice none 0 0) AE14.out (fun e => HZ.out.1.1 e.symm))
  have AR := Lib.hid (at_set12_ne (v0 := .int .u8 (kk : Int)) (v1 := .int .u8 (ff : Int)) (v2 := .int .u8 (tt : Int)) (v3 := .int .u32 (IntKind.u32.wrap id)) (v4 := .int .u8 (IntKind.u8.wrap tg)) (v5 := .int .u8 (IntKind.u8.wrap rg)) (v6 := .bool (F == 1)) (v7 := .slice none 0 0) (v8 := .slice none 0 0) (v9 := .slice none 0 0) (v10 := .slice none 0 0) (v11 := .slice none 0 0) AR14.out (fun e => HR.out.1.1 e.symm))
  have KX := Lib.hid (show Chg (fun x => w.heap.size ≤ x) w2 (((((((((((((w14.setCell ⟨z4, 0, none⟩ (.int .u8 (kk : Int))).setCell ⟨z4, 1, none⟩ (.int .u8 (ff : Int))).setCell ⟨z4, 2, none⟩ (.int .u8 (tt : Int))).setCell ⟨z4, 3, none⟩ (.int .u32 (IntKind.u32.wrap id))).setCell ⟨z4, 4, none⟩ (.int .u8 (IntKind.u8.wrap tg))).setCell ⟨z4, 5, none⟩ (.int .u8 (IntKind.u8.wrap rg))).setCell ⟨z4, 6, none⟩ (.bool (F == 1))).setCell ⟨z4, 7, none⟩ (.slice none 0 0)).setCell ⟨z4, 8, none⟩ (.slice none 0 0)).setCell ⟨z4, 9, none⟩ (.slice none 0 0)).setCell ⟨z4, 10, none⟩ (.slice none 0 0)).setCell ⟨z4, 11, none⟩ (.slice none 0 0))) from chg_set12 KX14.out HZ.out.2.1)
  clear AZ14 AE14 AF14 AR14 KX14 hHeld ee0 ff0 ee1 ff1 ee2 ff2 ee3 ff3 ee4 ff4 ee5 ff5 ee6 ff6 ee7 ff7 ee8 ff8 ee9 ff9 ee10 ff10 ee11 ff11
  generalize ((((((((((((w14.setCell ⟨z4, 0, none⟩ (.int .u8 (kk : Int))).setCell ⟨z4, 1, none⟩ (.int .u8 (ff : Int))).setCell ⟨z4, 2, none⟩ (.int .u8 (tt : Int))).setCell ⟨z4, 3, none⟩ (.int .u32 (IntKind.u32.wrap id))).setCell ⟨z4, 4, none⟩ (.int .u8 (IntKind.u8.wrap tg))).setCell ⟨z4, 5, none⟩ (.int .u8 (IntKind.u8.wrap rg))).setCell ⟨z4, 6, none⟩ (.bool (F == 1))).setCell ⟨z4, 7, none⟩ (.slice none 0 0)).setCell ⟨z4, 8, none⟩ (.slice none 0 0)).setCell ⟨z4, 9, none⟩ (.slice none 0 0)).setCell ⟨z4, 10, none⟩ (.slice none 0 0)).setCell ⟨z4, 11, none⟩ (.slice none 0 0)) = w15 at *
  rw [HV.out.1, HV.out.2.1, HV.out.2.2.1, HV.out.2.2.2] at azf
  have AZF := Lib.hid azf
  clear azf
  go_upto_region 10 with (go_at_call 30; have hL := LL7.out zr w15 AR.out; (with_reducible refine hL.mono ?_); clear hL; rintro e w16 ⟨v, rfl, hr, ha, hk⟩; obtain ⟨A7, g7, ev, -, -⟩ := Kd.R_reads hr; have RB7 := Lib.hid (show RV k72 72 z4 z5 zr w16 v l7 from ⟨_, ⟨AZF.out.lt, AE.out.lt, AR.out.lt⟩, hr⟩); subst ev; have AR1 := Lib.hid ha; have AZ1 := Lib.hid (at_chg AZF.out hk HR.out.1.1); have AE1 := Lib.hid (at_chg AE.out hk HR.out.1.2.1); have KX1 := Lib.hid (chg_then KX.out (chg_le hk (fun x e => by rw [e]; exact HR.out.2))); clear ha hk hr AR AZF AE KX; have eg : w16.cell? ⟨z4, 7, none⟩ = some (.slice none 0 0) := AZ1.out.cell 7; have fg : w16.frozen? ⟨z4, 7, none⟩ = false := AZ1.out.free 7)
  have AZ := Lib.hid (show At (w16.setCell ⟨z4, 7, none⟩ (.slice A7 l7.length g7)) z4 #[.int .u8 (kk : Int), .int .u8 (ff : Int), .int .u8 (tt : Int), .int .u32 id, .int .u8 tg, .int .u8 rg, .bool fl, .slice A7 l7.length g7, .slice none 0 0, .slice none 0 0, .slice none 0 0, .slice none 0 0] 29 from at_set' AZ1.out rfl)
  have AE := Lib.hid (at_set_ne (b' := z4) (i := 7) (v := .slice A7 l7.length g7) AE1.out (fun e => HZ.out.1.1 e.symm))
  have AR := Lib.hid (at_set_ne (b' := z4) (i := 7) (v := .slice A7 l7.length g7) AR1.out (fun e => HR.out.1.1 e.symm))
  have KX := Lib.hid (chg_set (b := z4) (i := 7) (v := .slice A7 l7.length g7) KX1.out HZ.out.2.1)
  have RA7 := Lib.hid (RB7.out.step (chg_set (b := z4) (i := 7) (v := .slice A7 l7.length g7) (chg_refl _ _) (.inl rfl)))
  clear AZ1 AE1 AR1 KX1 eg fg RB7
  generalize w16.setCell ⟨z4, 7, none⟩ (.slice A7 l7.length g7) = v16 at *
  go_upto_region 11 with (go_at_call 32; have hL := LL8.out zr v16 AR.out; (with_reducible refine hL.mono ?_); clear hL; rintro e w17 ⟨v, rfl, hr, ha, hk⟩; obtain ⟨A8, g8, ev, -, -⟩ := Kd.R_reads hr; have RB8 := Lib.hid (show RV Kd.string 9 z4 z5 zr w17 v l8 from ⟨_, ⟨AZ.out.lt, AE.out.lt, AR.out.lt⟩, hr⟩); subst ev; have RB7 := Lib.hid (RA7.out.step (chg_le hk (fun x e => .inr (.inr e)))); clear RA7; have AR1 := Lib.hid ha; have AZ1 := Lib.hid (at_chg AZ.out hk HR.out.1.1); have AE1 := Lib.hid (at_chg AE.out hk HR.out.1.2.1); have KX1 := Lib.hid (chg_then KX.out (chg_le hk (fun x e => by rw [e]; exact HR.out.2))); clear ha hk hr AR AZ AE KX; have eg : w17.cell? ⟨z4, 8, none⟩ = some (.slice none 0 0) := AZ1.out.cell 8; have fg : w17.frozen? ⟨z4, 8, none⟩ = false := AZ1.out.free 8)
  have AZ := Lib.hid (show At (w17.setCell ⟨z4, 8, none⟩ (.slice A8 l8.length g8)) z4 #[.int .u8 (kk : Int), .int .u8 (ff : Int), .int .u8 (tt : Int), .int .u32 id, .int .u8 tg, .int .u8 rg, .bool fl, .slice A7 l7.length g7, .slice A8 l8.length g8, .slice none 0 0, .slice none 0 0, .slice none 0 0] 29 from at_set' AZ1.out rfl)
  have AE := Lib.hid (at_set_ne (b' := z4) (i := 8) (v := .slice A8 l8.length g8) AE1.out (fun e => HZ.out.1.1 e.symm))
  have AR := Lib.hid (at_set_ne (b' := z4) (i := 8) (v := .slice A8 l8.length g8) AR1.out (fun e => HR.out.1.1 e.symm))
  have KX := Lib.hid (chg_set (b := z4) (i := 8) (v := .slice A8 l8.length g8) KX1.out HZ.out.2.1)
  have RA7 := Lib.hid (RB7.out.step (chg_set (b := z4) (i := 8) (v := .slice A8 l8.length g8) (chg_refl _ _) (.inl rfl)))
  have RA8 := Lib.hid (RB8.out.step (chg_set (b := z4) (i := 8) (v := .slice A8 l8.length g8) (chg_refl _ _) (.inl rfl)))
  clear AZ1 AE1 AR1 KX1 eg fg RB7 RB8
  generalize w17.setCell ⟨z4, 8, none⟩ (.slice A8 l8.length g8) = v17 at *
  go_upto_region 12 with (go_at_call 34; have hL := LL9.out zr v17 AR.out; (with_reducible refine hL.mono ?_); clear hL; rintro e w18 ⟨v, rfl, hr, ha, hk⟩; obtain ⟨A9, g9, ev, -, -⟩ := Kd.R_reads hr; have RB9 := Lib.hid (show RV k54 54 z4 z5 zr w18 v l9 from ⟨_, ⟨AZ.out.lt, AE.out.lt, AR.out.lt⟩, hr⟩); subst ev; have RB7 := Lib.hid (RA7.out.step (chg_le hk (fun x e => .inr (.inr e)))); have RB8 := Lib.hid (RA8.out.step (chg_le hk (fun x e => .inr (.inr e)))); clear RA7 RA8; have AR1 := Lib.hid ha; have AZ1 := Lib.hid (at_chg AZ.out hk HR.out.1.1); have AE1 := Lib.hid (at_chg AE.out hk HR.out.1.2.1); have KX1 := Lib.hid (chg_then KX.out (chg_le hk (fun x e => by rw [e]; exact HR.out.2))); clear ha hk hr AR AZ AE KX; have eg : w18.cell? ⟨z4, 9, none⟩ = some (.slice none 0 0) := AZ1.out.cell 9; have fg : w18.frozen? ⟨z4, 9, none⟩ = false := AZ1.out.free 9)
  have AZ := Lib.hid (show At (w18.setCell ⟨z4, 9, none⟩ (.slice A9 l9.length g9)) z4 #[.int .u8 (kk : Int), .int .u8 (ff : Int), .int .u8 (tt : Int), .int .u32 id, .int .u8 tg, .int .u8 rg, .bool fl, .slice A7 l7.length g7, .slice A8 l8.length g8, .slice A9 l9.length g9, .slice none 0 0, .slice none 0 0] 29 from at_set' AZ1.out rfl)
  have AE := Lib.hid (at_set_ne (b' := z4) (i := 9) (v := .slice A9 l9.length g9) AE1.out (fun e => HZ.out.1.1 e.symm))
  have AR := Lib.hid (at_set_ne (b' := z4) (i := 9) (v := .slice A9 l9.length g9) AR1.out (fun e => HR.out.1.1 e.symm))
  have KX := Lib.hid (chg_set (b := z4) (i := 9) (v := .slice A9 l9.length g9) KX1.out HZ.out.2.1)
  have RA7 := Lib.hid (RB7.out.step (chg_set (b := z4) (i := 9) (v := .slice A9 l9.length g9) (chg_refl _ _) (.inl rfl)))
  have RA8 := Lib.hid (RB8.out.step (chg_set (b := z4) (i := 9) (v := .slice A9 l9.length g9) (chg_refl _ _) (.inl rfl)))
  have RA9 := Lib.hid (RB9.out.step (chg_set (b := z4) (i := 9) (v := .slice A9 l9.length g9) (chg_refl _ _) (.inl rfl)))
  clear AZ1 AE1 AR1 KX1 eg fg RB7 RB8 RB9
  generalize w18.setCell ⟨z4, 9, none⟩ (.slice A9 l9.length g9) = v18 at *
  go_upto_region 13 with (go_at_call 36; have hL := LL10.out zr v18 AR.out; (with_reducible refine hL.mono ?_); clear hL; rintro e w19 ⟨v, rfl, hr, ha, hk⟩; obtain ⟨A10, g10, ev, -, -⟩ := Kd.R_reads hr; have RB10 := Lib.hid (show RV k56 56 z4 z5 zr w19 v l10 from ⟨_, ⟨AZ.out.lt, AE.out.lt, AR.out.lt⟩, hr⟩); subst ev; have RB7 := Lib.hid (RA7.out.step (chg_le hk (fun x e => .inr (.inr e)))); have RB8 := Lib.hid (RA8.out.step (chg_le hk (fun x e => .inr (.inr e)))); have RB9 := Lib.hid (RA9.out.step (chg_le hk (fun x e => .inr (.inr e)))); clear RA7 RA8 RA9; have AR1 := Lib.hid ha; have AZ1 := Lib.hid (at_chg AZ.out hk HR.out.1.1); have AE1 := Lib.hid (at_chg AE.out hk HR.out.1.2.1); have KX1 := Lib.hid (chg_then KX.out (chg_le hk (fun x e => by rw [e]; exact HR.out.2))); clear ha hk hr AR AZ AE KX; have eg : w19.cell? ⟨z4, 10, none⟩ = some (.slice none 0 0) := AZ1.out.cell 10; have fg : w19.frozen? ⟨z4, 10, none⟩ = false := AZ1.out.free 10)
  have AZ := Lib.hid (show At (w19.setCell ⟨z4, 10, none⟩ (.slice A10 l10.length g10)) z4 #[.int .u8 (kk : Int), .int .u8 (ff : Int), .int .u8 (tt : Int), .int .u32 id, .int .u8 tg, .int .u8 rg, .bool fl, .slice A7 l7.length g7, .slice A8 l8.length g8, .slice A9 l9.length g9, .slice A10 l10.length g10, .slice none 0 0] 29 from at_set' AZ1.out rfl)
  have AE := Lib.hid (at_set_ne (b' := z4) (i := 10) (v := .slice A10 l10.length g10) AE1.out (fun e => HZ.out.1.1 e.symm))
  have AR := Lib.hid (at_set_ne (b' := z4) (i := 10) (v := .slice A10 l10.length g10) AR1.out (fun e => HR.out.1.1 e.symm))
  have KX := Lib.hid (chg_set (b := z4) (i := 10) (v := .slice A10 l10.length g10) KX1.out HZ.out.2.1)
  have RA7 := Lib.hid (RB7.out.step (chg_set (b := z4) (i := 10) (v := .slice A10 l10.length g10) (chg_refl _ _) (.inl rfl)))
  have RA8 := Lib.hid (RB8.out.step (chg_set (b := z4) (i := 10) (v := .slice A10 l10.length g10) (chg_refl _ _) (.inl rfl)))
  have RA9 := Lib.hid (RB9.out.step (chg_set (b := z4) (i := 10) (v := .slice A10 l10.length g10) (chg_refl _ _) (.inl rfl)))
  have RA10 := Lib.hid (RB10.out.step (chg_set (b := z4) (i := 10) (v := .slice A10 l10.length g10) (chg_refl _ _) (.inl rfl)))
  clear AZ1 AE1 AR1 KX1 eg fg RB7 RB8 RB9 RB10
  generalize w19.setCell ⟨z4, 10, none⟩ (.slice A10 l10.length g10) = v19 at *
  go_upto_region 14 with (go_at_call 38; have hL := LL11.out zr v19 AR.out; (with_reducible refine hL.mono ?_); clear hL; rintro e w20 ⟨v, rfl, hr, ha, hk⟩; obtain ⟨A11, g11, ev, -, -⟩ := Kd.R_reads hr; have RB11 := Lib.hid (show RV (Kd.int .u64) 50 z4 z5 zr w20 v l11 from ⟨_, ⟨AZ.out.lt, AE.out.lt, AR.out.lt⟩, hr⟩); subst ev; have RB7 := Lib.hid (RA7.out.step (chg_le hk (fun x e => .inr (.inr e)))); have RB8 := Lib.hid (RA8.out.step (chg_le hk (fun x e => .inr (.inr e)))); have RB9 := Lib.hid (RA9.out.step (chg_le hk (fun x e => .inr (.inr e)))); have RB10 := Lib.hid (RA10.out.step (chg_le hk (fun x e => .inr (.inr e)))); clear RA7 RA8 RA9 RA10; have AR1 := Lib.hid ha; have AZ1 := Lib.hid (at_chg AZ.out hk HR.out.1.1); have AE1 := Lib.hid (at_chg AE.out hk HR.out.1.2.1); have KX1 := Lib.hid (chg_then KX.out (chg_le hk (fun x e => by rw [e]; exact HR.out.2))); clear ha hk hr AR AZ AE KX; have eg : w20.cell? ⟨z4, 11, none⟩ = some (.slice none 0 0) := AZ1.out.cell 11; have fg : w20.frozen? ⟨z4, 11, none⟩ = false := AZ1.out.free 11)
  have AZ := Lib.hid (show At (w20.setCell ⟨z4, 11, none⟩ (.slice A11 l11.length g11)) z4 #[.int .u8 (kk : Int), .int .u8 (ff : Int), .int .u8 (tt : Int), .int .u32 id, .int .u8 tg, .int .u8 rg, .bool fl, .slice A7 l7.length g7, .slice A8 l8.length g8, .slice A9 l9.length g9, .slice A10 l10.length g10, .slice A11 l11.length g11] 29 from at_set' AZ1.out rfl)
  have AE := Lib.hid (at_set_ne (b' := z4) (i := 11) (v := .slice A11 l11.length g11) AE1.out (fun e => HZ.out.1.1 e.symm))
  have AR := Lib.hid (at_set_ne (b' := z4) (i := 11) (v := .slice A11 l11.length g11) AR1.out (fun e => HR.out.1.1 e.symm))
  have KX := Lib.hid (chg_set (b := z4) (i := 11) (v := .slice A11 l11.length g11) KX1.out HZ.out.2.1)
  have RA7 := Lib.hid (RB7.out.step (chg_set (b := z4) (i := 11) (v := .slice A11 l11.length g11) (chg_refl _ _) (.inl rfl)))
  have RA8 := Lib.hid (RB8.out.step (chg_set (b := z4) (i := 11) (v := .slice A11 l11.length g11) (chg_refl _ _) (.inl rfl)))
  have RA9 := Lib.hid (RB9.out.step (chg_set (b := z4) (i := 11) (v := .slice A11 l11.length g11) (chg_refl _ _) (.inl rfl)))
  have RA10 := Lib.hid (RB10.out.step (chg_set (b := z4) (i := 11) (v := .slice A11 l11.length g11) (chg_refl _ _) (.inl rfl)))
  have RA11 := Lib.hid (RB11.out.step (chg_set (b := z4) (i := 11) (v := .slice A11 l11.length g11) (chg_refl _ _) (.inl rfl)))
  clear AZ1 AE1 AR1 KX1 eg fg RB7 RB8 RB9 RB10 RB11
  generalize w20.setCell ⟨z4, 11, none⟩ (.slice A11 l11.length g11) = v20 at *
  have hzs : (((body.size : Nat) : Int) != ((body.size : Nat) : Int)) = false := bne_self_eq_false _
  refine start_ (n := 10) (S := fun w' => w'.cell? ⟨zr, 0, none⟩ = some (.string body) ∧ w'.cell? ⟨zr, 1, none⟩ = some (.int .i64 (body.size : Int))) (ds := []) #[false, false, false, false, false, false, false, false, false, false] (by kernel_rfl) rfl rfl ⟨AR.out.cell 0, AR.out.cell 1⟩ (fun hHeld => ?_)
  replace AR := Lib.hid (at_drew AR.out)
  replace AZ := Lib.hid (at_drew AZ.out)
  replace AE := Lib.hid (at_drew AE.out)
  replace KX := Lib.hid (chg_drew KX.out)
  replace RA7 := Lib.hid (RA7.out.step (chg_drew (chg_refl _ _)))
  replace RA8 := Lib.hid (RA8.out.step (chg_drew (chg_refl _ _)))
  replace RA9 := Lib.hid (RA9.out.step (chg_drew (chg_refl _ _)))
  replace RA10 := Lib.hid (RA10.out.step (chg_drew (chg_refl _ _)))
  replace RA11 := Lib.hid (RA11.out.step (chg_drew (chg_refl _ _)))
  generalize v20.drew = v21 at AR AZ AE KX hHeld RA7 RA8 RA9 RA10 RA11 ⊢
  refine pure_ (i := 0) (N := some 73) (v := ?_) (a' := ?_) #[true, false, false, false, false, false, false, false, false, false] rfl rfl (by kernel_rfl) (by intro _ _ _ h; exact put12 (d := 73) (by decide) (by decide) h) (Or.inl ⟨by rfl, ?_⟩) ?_ ?_
  rotate_left
  · intro w'
    go_simp
    with_reducible rfl
  rotate_left
  · simp only [Act.put, List.setIfInBounds_toArray, List.set_cons_zero, List.set_cons_succ, i64_w, i32_w]
    rfl
  refine pure_ (i := 1) (N := some 74) (v := ?_) (a' := ?_) #[true, true, false, false, false, false, false, false, false, false] rfl rfl (by kernel_rfl) (by intro _ _ _ h; exact put12 (d := 74) (by decide) (by decide) h) (Or.inl ⟨by rfl, ?_⟩) ?_ ?_
  rotate_left
  · intro w'
    go_simp
    with_reducible rfl
  rotate_left
  · simp only [Act.put, List.setIfInBounds_toArray, List.set_cons_zero, List.set_cons_succ, i64_w, i32_w]
    rfl
  refine pure_ (i := 2) (N := some 75) (v := ?_) (a' := ?_) #[true, true, true, false, false, false, false, false, false, false] rfl rfl (by kernel_rfl) (by intro _ _ _ h; exact put12 (d := 75) (by decide) (by decide) h) (Or.inl ⟨by rfl, ?_⟩) ?_ ?_
  rotate_left
  · intro w'
    go_simp
    with_reducible rfl
  rotate_left
  · simp only [Act.put, List.setIfInBounds_toArray, List.set_cons_zero, List.set_cons_succ, i64_w, i32_w]
    rfl
  refine pure_ (i := 4) (N := some 77) (v := ?_) (a' := ?_) #[true, true, true, false, true, false, false, false, false, false] rfl rfl (by kernel_rfl) (by intro _ _ _ h; exact put12 (d := 77) (by decide) (by decide) h) (Or.inl ⟨by rfl, ?_⟩) ?_ ?_
  rotate_left
  · intro w'
    go_simp
    with_reducible rfl
  rotate_left
  · simp only [Act.put, List.setIfInBounds_toArray, List.set_cons_zero, List.set_cons_succ, i64_w, i32_w]
    rfl
  refine pure_ (i := 5) (N := some 78) (v := ?_) (a' := ?_) #[true, true, true, false, true, true, false, false, false, false] rfl rfl (by kernel_rfl) (by intro _ _ _ h; exact put12 (d := 78) (by decide) (by decide) h) (Or.inl ⟨by rfl, ?_⟩) ?_ ?_
  rotate_left
  · intro w'
    go_simp
    with_reducible rfl
  rotate_left
  · simp only [Act.put, List.setIfInBounds_toArray, List.set_cons_zero, List.set_cons_succ, i64_w, i32_w]
    rfl
  refine pure_ (i := 6) (N := some 79) (v := ?_) (a' := ?_) #[true, true, true, false, true, true, true, false, false, false] rfl rfl (by kernel_rfl) (by intro _ _ _ h; exact put12 (d := 79) (by decide) (by decide) h) (Or.inl ⟨by rfl, ?_⟩) ?_ ?_
  rotate_left
  · intro w'
    go_simp
    with_reducible rfl
  rotate_left
  · simp only [Act.put, List.setIfInBounds_toArray, List.set_cons_zero, List.set_cons_succ, i64_w, i32_w]
    rfl
  refine take_ (i := 3) (N := some 76) (v := ?_) (a' := ?_) #[true, true, true, true, true, true, true, false, false, false] rfl rfl (by kernel_rfl) (by intro _ _ _ h; exact put12 (d := 76) (by decide) (by decide) h) (Or.inl ⟨by rfl, ?_⟩) hHeld ?_ ?_
  rotate_left
  · rintro w' ⟨s0, s1⟩
    go_simp
    with_reducible rfl
  rotate_left
  · simp only [Act.put, List.setIfInBounds_toArray, List.set_cons_zero, List.set_cons_succ, i64_w, i32_w]
    rfl
  refine take_ (i := 7) (N := some 80) (v := ?_) (a' := ?_) #[true, true, true, true, true, true, true, true, false, false] rfl rfl (by kernel_rfl) (by intro _ _ _ h; exact put12 (d := 80) (by decide) (by decide) h) (Or.inl ⟨by rfl, ?_⟩) hHeld ?_ ?_
  rotate_left
  · rintro w' ⟨s0, s1⟩
    go_simp
    with_reducible rfl
  rotate_left
  · simp only [Act.put, List.setIfInBounds_toArray, List.set_cons_zero, List.set_cons_succ, i64_w, i32_w]
    rfl
  refine pure_ (i := 8) (N := some 81) (v := ?_) (a' := ?_) #[true, true, true, true, true, true, true, true, true, false] rfl rfl (by kernel_rfl) (by intro _ _ _ h; exact put12 (d := 81) (by decide) (by decide) h) (Or.inl ⟨by rfl, ?_⟩) ?_ ?_
  rotate_left
  · intro w'
    go_simp
    with_reducible rfl
  rotate_left
  · simp only [Act.put, List.setIfInBounds_toArray, List.set_cons_zero, List.set_cons_succ, i64_w, i32_w]
    rfl
  refine pure_ (i := 9) (N := some 82) (v := ?_) (a' := ?_) #[true, true, true, true, true, true, true, true, true, true] rfl rfl (by kernel_rfl) (by intro _ _ _ h; exact put12 (d := 82) (by decide) (by decide) h) (Or.inl ⟨by rfl, ?_⟩) ?_ ?_
  rotate_left
  · intro w'
    go_simp
    with_reducible rfl
  rotate_left
  · simp only [Act.put, List.setIfInBounds_toArray, List.set_cons_zero, List.set_cons_succ, i64_w, i32_w]
    rfl
  refine done_ (by kernel_rfl) ?_
  have eh0 : v21.cell? ⟨z4, 0, none⟩ = some (.int .u8 (kk : Int)) := AZ.out.cell 0
  have fh0 : v21.frozen? ⟨z4, 0, none⟩ = false := AZ.out.free 0
  have eh1 : v21.cell? ⟨z4, 1, none⟩ = some (.int .u8 (ff : Int)) := AZ.out.cell 1
  have fh1 : v21.frozen? ⟨z4, 1, none⟩ = false := AZ.out.free 1
  have eh2 : v21.cell? ⟨z4, 2, none⟩ = some (.int .u8 (tt : Int)) := AZ.out.cell 2
  have fh2 : v21.frozen? ⟨z4, 2, none⟩ = false := AZ.out.free 2
  have eh3 : v21.cell? ⟨z4, 3, none⟩ = some (.int .u32 id) := AZ.out.cell 3
  have fh3 : v21.frozen? ⟨z4, 3, none⟩ = false := AZ.out.free 3
  have eh4 : v21.cell? ⟨z4, 4, none⟩ = some (.int .u8 tg) := AZ.out.cell 4
  have fh4 : v21.frozen? ⟨z4, 4, none⟩ = false := AZ.out.free 4
  have eh5 : v21.cell? ⟨z4, 5, none⟩ = some (.int .u8 rg) := AZ.out.cell 5
  have fh5 : v21.frozen? ⟨z4, 5, none⟩ = false := AZ.out.free 5
  have eh6 : v21.cell? ⟨z4, 6, none⟩ = some (.bool fl) := AZ.out.cell 6
  have fh6 : v21.frozen? ⟨z4, 6, none⟩ = false := AZ.out.free 6
  have eh7 : v21.cell? ⟨z4, 7, none⟩ = some (.slice A7 l7.length g7) := AZ.out.cell 7
  have fh7 : v21.frozen? ⟨z4, 7, none⟩ = false := AZ.out.free 7
  have eh8 : v21.cell? ⟨z4, 8, none⟩ = some (.slice A8 l8.length g8) := AZ.out.cell 8
  have fh8 : v21.frozen? ⟨z4, 8, none⟩ = false := AZ.out.free 8
  have eh9 : v21.cell? ⟨z4, 9, none⟩ = some (.slice A9 l9.length g9) := AZ.out.cell 9
  have fh9 : v21.frozen? ⟨z4, 9, none⟩ = false := AZ.out.free 9
  have eh10 : v21.cell? ⟨z4, 10, none⟩ = some (.slice A10 l10.length g10) := AZ.out.cell 10
  have fh10 : v21.frozen? ⟨z4, 10, none⟩ = false := AZ.out.free 10
  have eh11 : v21.cell? ⟨z4, 11, none⟩ = some (.slice A11 l11.length g11) := AZ.out.cell 11
  have fh11 : v21.frozen? ⟨z4, 11, none⟩ = false := AZ.out.free 11
  have ei : v21.cell? ⟨z5, 0, none⟩ = some (.int .i64 0) := AE.out.cell 0
  have fi : v21.frozen? ⟨z5, 0, none⟩ = false := AE.out.free 0
  go_upto_region 16 with (fail)
  apply wp_region
  show wpOps _ _ _ [0, 1, 2] _ _
  refine step_ (i := 0) rfl ?_
  refine value_ (N := some 84) (w1 := ?_) (v := ?_) (by rfl) rfl ?_ ?_
  rotate_left 2
  · go_simp
    constructor
    · rfl
    · rfl
  simp only [Act.put, List.setIfInBounds_toArray, List.set_cons_zero, List.set_cons_succ]
  refine step_ (i := 1) rfl ?_
  refine skip_ (w1 := ?_) (by rfl) rfl ?_ ?_
  rotate_left
  · go_simp
    rfl
  have AZ2 := Lib.hid (show At (((((((((((((v21.setCell ⟨z4, 0, none⟩ (.int .u8 (kk : Int))).setCell ⟨z4, 1, none⟩ (.int .u8 (ff : Int))).setCell ⟨z4, 2, none⟩ (.int .u8 (tt : Int))).setCell ⟨z4, 3, none⟩ (.int .u32 id)).setCell ⟨z4, 4, none⟩ (.int .u8 tg)).setCell ⟨z4, 5, none⟩ (.int .u8 rg)).setCell ⟨z4, 6, none⟩ (.bool fl)).setCell ⟨z4, 7, none⟩ (.slice A7 l7.length g7)).setCell ⟨z4, 8, none⟩ (.slice A8 l8.length g8)).setCell ⟨z4, 9, none⟩ (.slice A9 l9.length g9)).setCell ⟨z4, 10, none⟩ (.slice A10 l10.length g10)).setCell ⟨z4, 11, none⟩ (.slice A11 l11.length g11))) z4 #[.int .u8 (kk : Int), .int .u8 (ff : Int), .int .u8 (tt : Int), .int .u32 id, .int .u8 tg, .int .u8 rg, .bool fl, .slice A7 l7.length g7, .slice A8 l8.length g8, .slice A9 l9.length g9, .slice A10 l10.length g10, .slice A11 l11.length g11] 29 from at_set12 AZ.out)
  have AE2 := Lib.hid (show At (((((((((((((v21.setCell ⟨z4, 0, none⟩ (.int .u8 (kk : Int))).setCell ⟨z4, 1, none⟩ (.int .u8 (ff : Int))).setCell ⟨z4, 2, none⟩ (.int .u8 (tt : Int))).setCell ⟨z4, 3, none⟩ (.int .u32 id)).setCell ⟨z4, 4, none⟩ (.int .u8 tg)).setCell ⟨z4, 5, none⟩ (.int .u8 rg)).setCell ⟨z4, 6, none⟩ (.bool fl)).setCell ⟨z4, 7, none⟩ (.slice A7 l7.length g7)).setCell ⟨z4, 8, none⟩ (.slice A8 l8.length g8)).setCell ⟨z4, 9, none⟩ (.slice A9 l9.length g9)).setCell ⟨z4, 10, none⟩ (.slice A10 l10.length g10)).setCell ⟨z4, 11, none⟩ (.slice A11 l11.length g11))) z5 #[.int .i64 0] 32 from at_set12_ne AE.out (fun e => HZ.out.1.1 e.symm))
  have KX2 := Lib.hid (show Chg (fun x => w.heap.size ≤ x) w2 (((((((((((((v21.setCell ⟨z4, 0, none⟩ (.int .u8 (kk : Int))).setCell ⟨z4, 1, none⟩ (.int .u8 (ff : Int))).setCell ⟨z4, 2, none⟩ (.int .u8 (tt : Int))).setCell ⟨z4, 3, none⟩ (.int .u32 id)).setCell ⟨z4, 4, none⟩ (.int .u8 tg)).setCell ⟨z4, 5, none⟩ (.int .u8 rg)).setCell ⟨z4, 6, none⟩ (.bool fl)).setCell ⟨z4, 7, none⟩ (.slice A7 l7.length g7)).setCell ⟨z4, 8, none⟩ (.slice A8 l8.length g8)).setCell ⟨z4, 9, none⟩ (.slice A9 l9.length g9)).setCell ⟨z4, 10, none⟩ (.slice A10 l10.length g10)).setCell ⟨z4, 11, none⟩ (.slice A11 l11.length g11))) from chg_set12 KX.out HZ.out.2.1)
  have KY2 := Lib.hid (show Chg (fun x => x = z4 ∨ x = z5 ∨ x = zr) v21 (((((((((((((v21.setCell ⟨z4, 0, none⟩ (.int .u8 (kk : Int))).setCell ⟨z4, 1, none⟩ (.int .u8 (ff : Int))).setCell ⟨z4, 2, none⟩ (.int .u8 (tt : Int))).setCell ⟨z4, 3, none⟩ (.int .u32 id)).setCell ⟨z4, 4, none⟩ (.int .u8 tg)).setCell ⟨z4, 5, none⟩ (.int .u8 rg)).setCell ⟨z4, 6, none⟩ (.bool fl)).setCell ⟨z4, 7, none⟩ (.slice A7 l7.length g7)).setCell ⟨z4, 8, none⟩ (.slice A8 l8.length g8)).setCell ⟨z4, 9, none⟩ (.slice A9 l9.length g9)).setCell ⟨z4, 10, none⟩ (.slice A10 l10.length g10)).setCell ⟨z4, 11, none⟩ (.slice A11 l11.length g11))) from chg_set12 (chg_refl _ _) (.inl rfl))
  clear AZ AE AR KX hHeld ei fi eh0 fh0 eh1 fh1 eh2 fh2 eh3 fh3 eh4 fh4 eh5 fh5 eh6 fh6 eh7 fh7 eh8 fh8 eh9 fh9 eh10 fh10 eh11 fh11
  generalize ((((((((((((v21.setCell ⟨z4, 0, none⟩ (.int .u8 (kk : Int))).setCell ⟨z4, 1, none⟩ (.int .u8 (ff : Int))).setCell ⟨z4, 2, none⟩ (.int .u8 (tt : Int))).setCell ⟨z4, 3, none⟩ (.int .u32 id)).setCell ⟨z4, 4, none⟩ (.int .u8 tg)).setCell ⟨z4, 5, none⟩ (.int .u8 rg)).setCell ⟨z4, 6, none⟩ (.bool fl)).setCell ⟨z4, 7, none⟩ (.slice A7 l7.length g7)).setCell ⟨z4, 8, none⟩ (.slice A8 l8.length g8)).setCell ⟨z4, 9, none⟩ (.slice A9 l9.length g9)).setCell ⟨z4, 10, none⟩ (.slice A10 l10.length g10)).setCell ⟨z4, 11, none⟩ (.slice A11 l11.length g11)) = w23 at *
  have ei : w23.cell? ⟨z5, 0, none⟩ = some (.int .i64 0) := AE2.out.cell 0
  have fi : w23.frozen? ⟨z5, 0, none⟩ = false := AE2.out.free 0
  refine step_ (i := 2) rfl ?_
  refine skip_ (w1 := ?_) (by rfl) rfl ?_ ?_
  rotate_left
  · go_simp
    rfl
  have AZ := Lib.hid (at_set_ne (b' := z5) (i := 0) (v := .int .i64 0) AZ2.out HZ.out.1.1)
  have AE := Lib.hid (show At (w23.setCell ⟨z5, 0, none⟩ (.int .i64 0)) z5 #[.int .i64 0] 32 from at_set' AE2.out rfl)
  have KX := Lib.hid (chg_set (b := z5) (i := 0) (v := .int .i64 0) KX2.out HZ.out.2.2)
  have KY := Lib.hid (chg_set (b := z5) (i := 0) (v := .int .i64 0) KY2.out (.inr (.inl rfl)))
  clear AZ2 AE2 KX2 KY2 ei fi
  generalize w23.setCell ⟨z5, 0, none⟩ (.int .i64 0) = w24 at *
  rw [wpOps]
  go_wp2_with (fail)
  refine leaves_cons (f := 28) (args := #[.pointer (some ⟨z4, 0, none⟩), .pointer (some ⟨z5, 0, none⟩)]) (by simp) (by simp [go_sem]) ?_
  refine (catch_idle z4 z5 _).mono ?_
  rintro e u' w'' ⟨rfl, rfl, rfl⟩
  obtain ⟨B7, hB7, hr7⟩ := RA7.out.step KY.out
  obtain ⟨B8, hB8, hr8⟩ := RA8.out.step KY.out
  obtain ⟨B9, hB9, hr9⟩ := RA9.out.step KY.out
  obtain ⟨B10, hB10, hr10⟩ := RA10.out.step KY.out
  obtain ⟨B11, hB11, hr11⟩ := RA11.out.step KY.out
  refine ⟨_, results_un _ z4 z5 _ _ _ _ _ _ _ _ _ _ _ _ _ _ rfl rfl AZ.out AE.out, A7, g7, A8, g8, A9, g9, A10, g10, A11, g11, rfl, ?_, ?_, ?_⟩
  · intro w1 kc
    have hz9 := HZ.out
    have hs7 := Kd.R_step hr7 (fun j hj hl => kc.block j hl (by omega))
    obtain ⟨-, c7, d7⟩ := Kd.R_reads' hs7
    have hs8 := Kd.R_step hr8 (fun j hj hl => kc.block j hl (by omega))
    obtain ⟨-, c8, d8⟩ := Kd.R_reads' hs8
    have hs9 := Kd.R_step hr9 (fun j hj hl => kc.block j hl (by omega))
    obtain ⟨-, c9, d9⟩ := Kd.R_reads' hs9
    have hs10 := Kd.R_step hr10 (fun j hj hl => kc.block j hl (by omega))
    obtain ⟨-, c10, d10⟩ := Kd.R_reads' hs10
    have hs11 := Kd.R_step hr11 (fun j hj hl => kc.block j hl (by omega))
    obtain ⟨-, c11, d11⟩ := Kd.R_reads' hs11
    exact ⟨d7, c7, d8, c8, d9, c9, d10, c10, d11, c11⟩
  · exact is_chgS HT2.out KX.out (by have := HTL.out; omega)
  · exact ⟨KX.out.os.trans HK2.out.os, KX.out.tape.trans HK2.out.tape, KX.out.output.trans HK2.out.output, Nat.le_trans HK2.out.size KX.out.size, fun i hi hn => (KX.out.block i (Nat.lt_of_lt_of_le hi HK2.out.size) (Nat.not_le.2 hi)).trans (HK2.out.block i hi hn)⟩
end Go.Proofs.Ytdjompbhlkgmbaa.Msg
end
section
/- What stands in a body is read as it was put (own text; written by wip/tools/gen_msgpos.py). -/
namespace Go.Proofs.Ytdjompbhlkgmbaa.Rec
open Go.RowKit Go.Proofs.Ytdjompbhlkgmbaa Go.Proofs.Ytdjompbhlkgmbaa.Num Go.Proofs.Ytdjompbhlkgmbaa.Mem
set_option linter.unusedVariables false
theorem get_backL (A B k : ByteArray) (p l n d f x : Int) (b : ByteArray) (w : World) (hA : A.size + B.size ≤ 890000) (hm : mayR k p n d f x b = true)
    (h0 : (0 ≤ p ∧ p ≤ 18446744073709551615) ∧ (0 ≤ l ∧ l ≤ 4294967295) ∧ (0 ≤ n ∧ n ≤ 255) ∧ (0 ≤ d ∧ d ≤ 255) ∧ (0 ≤ f ∧ f ≤ 4294967295) ∧ (0 ≤ x ∧ x ≤ 18446744073709551615)) :
    Calls Try.prog 75 #[.string (A ++ recB k p l n d f x b ++ B), .int .i64 (A.size : Int)] w fun e w' => e = .returned (recV k p l n d f x b (((A ++ recB k p l n d f x b).size : Nat) : Int) 0) ∧ Below w.heap.size w w' := by
  obtain ⟨m1, m2, m3, m4, m5⟩ := mayR_all hm
  obtain ⟨p0, l0, n0, d0, f0, x0⟩ := h0
  have z0 := accB_size k (lV p l n d f x) 6
  have z1 := accB_size k (lV p l n d f x) 4
  have z2 := textB_size b
  by_cases hd : d = 3
  · have hr : recB k p l n d f x b = textB k ++ putB p ++ putB l ++ putB n ++ putB d ++ putB f ++ putB x ++ textB b := by unfold recB; rw [if_pos hd]; rfl
    have hz : (recB k p l n d f x b).size ≤ 2000 := by unfold recB; rw [if_pos hd, ByteArray.size_append]; omega
    rw [hr] at hz ⊢
    refine get_vO _ _ w (by rw [ByteArray.size_append, ByteArray.size_append]; omega) k p l n d f x b _ 0 _ 0 _ 0 _ 0 _ 0 _ 0 _ 0 _ 0
      (rdT_put A (putB p ++ putB l ++ putB n ++ putB d ++ putB f ++ putB x ++ textB b ++ B) k _ _ (by simp only [ByteArray.append_assoc]) rfl (by omega) (by omega))
      (rdN_put (A ++ textB k) (putB l ++ putB n ++ putB d ++ putB f ++ putB x ++ textB b ++ B) p _ _ (by simp only [ByteArray.append_assoc]) rfl (by omega) (by omega) (by omega))
      (rdN_put (A ++ textB k ++ putB p) (putB n ++ putB d ++ putB f ++ putB x ++ textB b ++ B) l _ _ (by simp only [ByteArray.append_assoc]) rfl (by omega) (by omega) (by omega))
      (rdN_put (A ++ textB k ++ putB p ++ putB l) (putB d ++ putB f ++ putB x ++ textB b ++ B) n _ _ (by simp only [ByteArray.append_assoc]) rfl (by omega) (by omega) (by omega))
      (rdN_put (A ++ textB k ++ putB p ++ putB l ++ putB n) (putB f ++ putB x ++ textB b ++ B) d _ _ (by simp only [ByteArray.append_assoc]) rfl (by omega) (by omega) (by omega))
      (rdN_put (A ++ textB k ++ putB p ++ putB l ++ putB n ++ putB d) (putB x ++ textB b ++ B) f _ _ (by simp only [ByteArray.append_assoc]) rfl (by omega) (by omega) (by omega))
      (rdN_put (A ++ textB k ++ putB p ++ putB l ++ putB n ++ putB d ++ putB f) (textB b ++ B) x _ _ (by simp only [ByteArray.append_assoc]) rfl (by omega) (by omega) (by omega))
      ?_ hd rfl hm
    have h := rdT_put (A ++ textB k ++ putB p ++ putB l ++ putB n ++ putB d ++ putB f ++ putB x) B b ((A ++ textB k ++ putB p ++ putB l ++ putB n ++ putB d ++ putB f ++ putB x).size : Int) 1024 rfl rfl (by omega) (by omega)
    simp only [ByteArray.append_assoc] at h ⊢
    exact h
  · obtain ⟨e1, e2, e3⟩ := m5.resolve_left hd
    have eb : b = ⟨#[]⟩ := by
      apply ByteArray.ext
      exact Array.eq_empty_of_size_eq_zero e3
    subst e1 e2 eb
    have hr : recB k p l n d 0 0 ⟨#[]⟩ = textB k ++ putB p ++ putB l ++ putB n ++ putB d := by unfold recB; rw [if_neg hd]; rfl
    have hz : (recB k p l n d 0 0 ⟨#[]⟩).size ≤ 2000 := by unfold recB; rw [if_neg hd]; omega
    rw [hr] at hz ⊢
    refine get_mO _ _ w (by rw [ByteArray.size_append, ByteArray.size_append]; omega) k p l n d _ 0 _ 0 _ 0 _ 0 _ 0
      (rdT_put A (putB p ++ putB l ++ putB n ++ putB d ++ B) k _ _ (by simp only [ByteArray.append_assoc]) rfl (by omega) (by omega))
      (rdN_put (A ++ textB k) (putB l ++ putB n ++ putB d ++ B) p _ _ (by simp only [ByteArray.append_assoc]) rfl (by omega) (by omega) (by omega))
      (rdN_put (A ++ textB k ++ putB p) (putB n ++ putB d ++ B) l _ _ (by simp only [ByteArray.append_assoc]) rfl (by omega) (by omega) (by omega))
      (rdN_put (A ++ textB k ++ putB p ++ putB l) (putB d ++ B) n _ _ (by simp only [ByteArray.append_assoc]) rfl (by omega) (by omega) (by omega))
      ?_ hd rfl hm
    have h := rdN_put (A ++ textB k ++ putB p ++ putB l ++ putB n) B d ((A ++ textB k ++ putB p ++ putB l ++ putB n).size : Int) 255 rfl rfl (by omega) (by omega) (by omega)
    simp only [ByteArray.append_assoc] at h ⊢
    exact h
end Go.Proofs.Ytdjompbhlkgmbaa.Rec
namespace Go.Proofs.Ytdjompbhlkgmbaa.Msg
open Go.RowKit Go.Proofs.Ytdjompbhlkgmbaa.Mem Go.Proofs.YtdjompbhlkgmbaaW.PrintWords Go.Proofs.YtdjompbhlkgmbaaW.PrintLast Go.Proofs.YtdjompbhlkgmbaaW.PrintMore Go.Proofs.Ytdjompbhlkgmbaa.PMsg
open Go.Proofs.Ytdjompbhlkgmbaa.Num (putB putE textB)
set_option linter.unusedVariables false
set_option linter.unusedSimpArgs false
def str (L : List UInt8) : ByteArray := ⟨L.toArray⟩
theorem str_size (L : List UInt8) : (str L).size = L.length := by
  show L.toArray.size = _
  rw [List.size_toArray]
theorem str_app (A B : List UInt8) : str (A ++ B) = str A ++ str B := by
  apply ByteArray.ext
  apply Array.toList_inj.1
  rw [Num.append_data]
  rfl
theorem str_bytes (s : ByteArray) : str s.data.toList = s := rfl
theorem num_at (A B : List UInt8) (n lo hi : Int) (h0 : 0 ≤ n) (h1 : n < 4611686018427387904) (hl : lo ≤ n) (hh : n ≤ hi) :
    numR (str (A ++ (putB n).data.toList ++ B)) (A.length : Int) lo hi = (n, ((A ++ (putB n).data.toList).length : Int), 0) := by
  have h := Num.get_put n (str A) (str B) h0 h1
  rw [str_size, ← str_bytes (putB n), ← str_app, ← str_app, str_size] at h
  unfold numR
  rw [h]
  simp only []
  rw [if_pos trivial, if_neg (by omega), List.length_append]
  rfl
theorem key_at (A B : List UInt8) (t : ByteArray) (hk : Rec.keyMay t = true) :
    keyR (str (A ++ (textB t).data.toList ++ B)) (A.length : Int) = (t, ((A ++ (textB t).data.toList).length : Int), 0) := by
  have hz : t.size ≤ 250 := by
    rcases Nat.lt_or_ge 250 t.size with g | g
    · rw [Rec.keyMay_size (.inr g)] at hk; cases hk
    · exact g
  have h := Num.get_text t (str A) (str B) 250 (by omega)
  rw [if_neg (by omega), str_size, ← str_bytes (textB t), ← str_app, ← str_app, str_size] at h
  unfold keyR
  rw [h]
  simp only []
  rw [if_pos trivial, if_pos hk, List.length_append]
  rfl
theorem rec_at (A B : List UInt8) (x : S54) (hx : pR x = true) (hr : (0 ≤ x.f1.f0 ∧ x.f1.f0 ≤ 18446744073709551615) ∧ (0 ≤ x.f1.f1 ∧ x.f1.f1 ≤ 4294967295) ∧ (0 ≤ x.f1.f2 ∧ x.f1.f2 ≤ 255) ∧ (0 ≤ x.f2 ∧ x.f2 ≤ 255) ∧ (0 ≤ x.f3 ∧ x.f3 ≤ 4294967295) ∧ (0 ≤ x.f4 ∧ x.f4 ≤ 18446744073709551615)) (hz : A.length + B.length ≤ 890000) (W : World) :
    Calls Try.prog 75 #[.string (str (A ++ recsI x ++ B)), .int .i64 (A.length : Int)] W fun e w' => e = .returned (.tuple #[.agg #[.string x.f0, .int .u64 x.f1.f0, .int .u32 x.f1.f1, .int .u8 x.f1.f2, .int .u8 x.f2, .int .u32 x.f3, .int .u64 x.f4, .string x.f5], .int .i64 ((A ++ recsI x).length : Int), .int .i64 0]) ∧ Below W.heap.size W w' := by
  have h := Rec.get_backL (str A) (str B) x.f0 x.f1.f0 x.f1.f1 x.f1.f2 x.f2 x.f3 x.f4 x.f5 W (by rw [str_size, str_size]; exact hz) hx hr
  have e : Rec.recB x.f0 x.f1.f0 x.f1.f1 x.f1.f2 x.f2 x.f3 x.f4 x.f5 = str (recsI x) := by
    unfold recsI recS
    have hx' : Rec.mayR x.f0 x.f1.f0 x.f1.f2 x.f2 x.f3 x.f4 x.f5 = true := hx
    rw [if_pos hx']
    rfl
  rw [e, ← str_app, ← str_app, str_size, str_size] at h
  exact h
theorem numsL1 (a : Int) : numsL [a] = (putB a).data.toList := by simp [numsL]
theorem news_item (body : ByteArray) (A B : List UInt8) (x : S72) (hx : pN x = true ∧ isB x.f0 255 ∧ isB x.f1.f0 255 ∧ isB x.f1.f1 4294967295) (hb : body = str (A ++ newsI x ++ B)) (hz : body.size ≤ 890000) (zr : Nat) (W : World) (hA : At W zr #[.string body, .int .i64 (A.length : Int)] 89) :
    Calls Try.prog 31 #[.pointer (some ⟨zr, 0, none⟩)] W fun e w' => e = .returned (.agg #[.int .u8 x.f0, .int .u8 x.f1.f0, .int .u32 x.f1.f1]) ∧ At w' zr #[.string body, .int .i64 ((A ++ newsI x).length)] 89 ∧ Chg (fun x => x = zr) W w' := by
  obtain ⟨hp, h0, h1, h2⟩ := hx
  unfold isB at h0 h1 h2
  have hp2 : x.f0 < 64 ∧ 1 ≤ x.f1.f0 ∧ x.f1.f0 ≤ 4 := by
    unfold pN at hp
    split at hp
    · split at hp
      · exact ⟨by assumption, by omega, of_decide_eq_true hp⟩
      · cases hp
    · cases hp
  have e : newsI x = (putB x.f0).data.toList ++ ((putB x.f1.f0).data.toList ++ (putB x.f1.f1).data.toList) := by simp [newsI, numsL]
  have n1 := num_at A (((putB x.f1.f0).data.toList ++ (putB x.f1.f1).data.toList) ++ B) x.f0 0 63 h0.1 (by omega) (by omega) (by omega)
  have n2 := num_at (A ++ (putB x.f0).data.toList) ((putB x.f1.f1).data.toList ++ B) x.f1.f0 1 4 h1.1 (by omega) (by omega) (by omega)
  have n3 := num_at ((A ++ (putB x.f0).data.toList) ++ (putB x.f1.f0).data.toList) B x.f1.f1 0 4294967295 h2.1 (by omega) (by omega) (by omega)
  have eb : body = str (A ++ (putB x.f0).data.toList ++ (((putB x.f1.f0).data.toList ++ (putB x.f1.f1).data.toList) ++ B)) := by rw [hb, e]; simp only [List.append_assoc]
  have eb2 : body = str ((A ++ (putB x.f0).data.toList) ++ (putB x.f1.f0).data.toList ++ ((putB x.f1.f1).data.toList ++ B)) := by rw [hb, e]; simp only [List.append_assoc]
  have eb3 : body = str (((A ++ (putB x.f0).data.toList) ++ (putB x.f1.f0).data.toList) ++ (putB x.f1.f1).data.toList ++ B) := by rw [hb, e]; simp only [List.append_assoc]
  rw [← eb] at n1
  rw [← eb2] at n2
  rw [← eb3] at n3
  have h := rnews_is zr body _ _ _ _ _ _ _ n1 n2 n3 ⟨by omega, by omega⟩ ⟨by omega, by omega⟩ ⟨by omega, by omega⟩ (by omega) W hA
  rw [show A ++ newsI x = (((A ++ (putB x.f0).data.toList) ++ (putB x.f1.f0).data.toList) ++ (putB x.f1.f1).data.toList) from by rw [e]; simp only [List.append_assoc]]
  exact h
theorem news_list (body : ByteArray) (P Q : List UInt8) (l : List S72) (hl : l.length ≤ 4096) (hok : ∀ x, x ∈ l → pN x = true ∧ isB x.f0 255 ∧ isB x.f1.f0 255 ∧ isB x.f1.f1 4294967295) (hb : body = str (P ++ numsL [(l.length : Int)] ++ l.flatMap newsI ++ Q)) (hz : body.size ≤ 890000) :
    ListIs 30 31 k72 72 body (P.length : Int) ((P ++ numsL [(l.length : Int)] ++ l.flatMap newsI).length : Int) l := by
  intro zr W hA
  have hc := num_at P (l.flatMap newsI ++ Q) (l.length : Int) 0 4096 (by omega) (by omega) (by omega) (by omega)
  rw [show P ++ (putB (l.length : Int)).data.toList ++ (l.flatMap newsI ++ Q) = P ++ numsL [(l.length : Int)] ++ l.flatMap newsI ++ Q from by rw [numsL1]; simp only [List.append_assoc], ← hb, ← numsL1] at hc
  have h := list72_is zr body (P.length : Int) l (fun i => ((P ++ numsL [(l.length : Int)] ++ (l.take i).flatMap newsI).length : Int)) (by rw [hc]; simp) hl (fun i x hx W' hA' => by
    obtain ⟨hi, hxe⟩ := List.getElem?_eq_some_iff.1 hx
    have e1 : (l.take (i + 1)).flatMap newsI = (l.take i).flatMap newsI ++ newsI x := by rw [flat_snoc _ l i hi, hxe]
    have e2 : l.flatMap newsI = ((l.take i).flatMap newsI ++ newsI x) ++ (l.drop (i + 1)).flatMap newsI := by rw [← e1, ← List.flatMap_append, List.take_append_drop]
    have h1 := news_item body (P ++ numsL [(l.length : Int)] ++ (l.take i).flatMap newsI) ((l.drop (i + 1)).flatMap newsI ++ Q) x (hok x (hxe ▸ List.getElem_mem hi)) (by rw [hb, e2]; simp only [List.append_assoc]) hz zr W' hA'
    rw [e1]
    rw [List.append_assoc (P ++ numsL [(l.length : Int)])] at h1
    exact h1) (by omega) W hA
  rw [List.take_length] at h
  exact h
theorem keys_item (body : ByteArray) (A B : List UInt8) (x : ByteArray) (hx : Rec.keyMay x = true) (hb : body = str (A ++ keysI x ++ B)) (hz : body.size ≤ 890000) (zr : Nat) (W : World) (hA : At W zr #[.string body, .int .i64 (A.length : Int)] 89) :
    Calls Try.prog 33 #[.pointer (some ⟨zr, 0, none⟩)] W fun e w' => e = .returned (.string x) ∧ At w' zr #[.string body, .int .i64 ((A ++ keysI x).length)] 89 ∧ Chg (fun x => x = zr) W w' := by
  have h := key_at A B x hx
  rw [show A ++ (textB x).data.toList ++ B = A ++ keysI x ++ B from rfl, ← hb] at h
  exact rkey_is zr body _ x _ h (by omega) W hA
theorem keys_list (body : ByteArray) (P Q : List UInt8) (l : List ByteArray) (hl : l.length ≤ 4096) (hok : ∀ x, x ∈ l → Rec.keyMay x = true) (hb : body = str (P ++ numsL [(l.length : Int)] ++ l.flatMap keysI ++ Q)) (hz : body.size ≤ 890000) :
    ListIs 32 33 Kd.string 9 body (P.length : Int) ((P ++ numsL [(l.length : Int)] ++ l.flatMap keysI).length : Int) l := by
  intro zr W hA
  have hc := num_at P (l.flatMap keysI ++ Q) (l.length : Int) 0 4096 (by omega) (by omega) (by omega) (by omega)
  rw [show P ++ (putB (l.length : Int)).data.toList ++ (l.flatMap keysI ++ Q) = P ++ numsL [(l.length : Int)] ++ l.flatMap keysI ++ Q from by rw [numsL1]; simp only [List.append_assoc], ← hb, ← numsL1] at hc
  have h := listS_is zr body (P.length : Int) l (fun i => ((P ++ numsL [(l.length : Int)] ++ (l.take i).flatMap keysI).length : Int)) (by rw [hc]; simp) hl (fun i x hx W' hA' => by
    obtain ⟨hi, hxe⟩ := List.getElem?_eq_some_iff.1 hx
    have e1 : (l.take (i + 1)).flatMap keysI = (l.take i).flatMap keysI ++ keysI x := by rw [flat_snoc _ l i hi, hxe]
    have e2 : l.flatMap keysI = ((l.take i).flatMap keysI ++ keysI x) ++ (l.drop (i + 1)).flatMap keysI := by rw [← e1, ← List.flatMap_append, List.take_append_drop]
    have h1 := keys_item body (P ++ numsL [(l.length : Int)] ++ (l.take i).flatMap keysI) ((l.drop (i + 1)).flatMap keysI ++ Q) x (hok x (hxe ▸ List.getElem_mem hi)) (by rw [hb, e2]; simp only [List.append_assoc]) hz zr W' hA'
    rw [e1]
    rw [List.append_assoc (P ++ numsL [(l.length : Int)])] at h1
    exact h1) (by omega) W hA
  rw [List.take_length] at h
  exact h
theorem recs_item (body : ByteArray) (A B : List UInt8) (x : S54) (hx : pR x = true ∧ ((0 ≤ x.f1.f0 ∧ x.f1.f0 ≤ 18446744073709551615) ∧ (0 ≤ x.f1.f1 ∧ x.f1.f1 ≤ 4294967295) ∧ (0 ≤ x.f1.f2 ∧ x.f1.f2 ≤ 255) ∧ (0 ≤ x.f2 ∧ x.f2 ≤ 255) ∧ (0 ≤ x.f3 ∧ x.f3 ≤ 4294967295) ∧ (0 ≤ x.f4 ∧ x.f4 ≤ 18446744073709551615))) (hb : body = str (A ++ recsI x ++ B)) (hz : body.size ≤ 890000) (zr : Nat) (W : World) (hA : At W zr #[.string body, .int .i64 (A.length : Int)] 89) :
    Calls Try.prog 35 #[.pointer (some ⟨zr, 0, none⟩)] W fun e w' => e = .returned (.agg #[.string x.f0, .int .u64 x.f1.f0, .int .u32 x.f1.f1, .int .u8 x.f1.f2, .int .u8 x.f2, .int .u32 x.f3, .int .u64 x.f4, .string x.f5]) ∧ At w' zr #[.string body, .int .i64 ((A ++ recsI x).length)] 89 ∧ Chg (fun x => x = zr) W w' := by
  refine rrec_is zr body _ _ _ _ _ _ _ _ _ _ (fun W' => ?_) W hA
  have h := rec_at A B x hx.1 hx.2 (by have h1 := congrArg ByteArray.size hb; rw [str_size, List.length_append, List.length_append] at h1; omega) W'
  rw [← hb] at h
  exact h
theorem recs_list (body : ByteArray) (P Q : List UInt8) (l : List S54) (hl : l.length ≤ 4096) (hok : ∀ x, x ∈ l → pR x = true ∧ ((0 ≤ x.f1.f0 ∧ x.f1.f0 ≤ 18446744073709551615) ∧ (0 ≤ x.f1.f1 ∧ x.f1.f1 ≤ 4294967295) ∧ (0 ≤ x.f1.f2 ∧ x.f1.f2 ≤ 255) ∧ (0 ≤ x.f2 ∧ x.f2 ≤ 255) ∧ (0 ≤ x.f3 ∧ x.f3 ≤ 4294967295) ∧ (0 ≤ x.f4 ∧ x.f4 ≤ 18446744073709551615))) (hb : body = str (P ++ numsL [(l.length : Int)] ++ l.flatMap recsI ++ Q)) (hz : body.size ≤ 890000) :
    ListIs 34 35 k54 54 body (P.length : Int) ((P ++ numsL [(l.length : Int)] ++ l.flatMap recsI).length : Int) l := by
  intro zr W hA
  have hc := num_at P (l.flatMap recsI ++ Q) (l.length : Int) 0 4096 (by omega) (by omega) (by omega) (by omega)
  rw [show P ++ (putB (l.length : Int)).data.toList ++ (l.flatMap recsI ++ Q) = P ++ numsL [(l.length : Int)] ++ l.flatMap recsI ++ Q from by rw [numsL1]; simp only [List.append_assoc], ← hb, ← numsL1] at hc
  have h := list54_is zr body (P.length : Int) l (fun i => ((P ++ numsL [(l.length : Int)] ++ (l.take i).flatMap recsI).length : Int)) (by rw [hc]; simp) hl (fun i x hx W' hA' => by
    obtain ⟨hi, hxe⟩ := List.getElem?_eq_some_iff.1 hx
    have e1 : (l.take (i + 1)).flatMap recsI = (l.take i).flatMap recsI ++ recsI x := by rw [flat_snoc _ l i hi, hxe]
    have e2 : l.flatMap recsI = ((l.take i).flatMap recsI ++ recsI x) ++ (l.drop (i + 1)).flatMap recsI := by rw [← e1, ← List.flatMap_append, List.take_append_drop]
    have h1 := recs_item body (P ++ numsL [(l.length : Int)] ++ (l.take i).flatMap recsI) ((l.drop (i + 1)).flatMap recsI ++ Q) x (hok x (hxe ▸ List.getElem_mem hi)) (by rw [hb, e2]; simp only [List.append_assoc]) hz zr W' hA'
    rw [e1]
    rw [List.append_assoc (P ++ numsL [(l.length : Int)])] at h1
    exact h1) (by omega) W hA
  rw [List.take_length] at h
  exact h
theorem seen_item (body : ByteArray) (A B : List UInt8) (x : S56) (hx : pS x = true ∧ isB x.f1.f0 18446744073709551615 ∧ isB x.f1.f1 4294967295 ∧ isB x.f1.f2 255 ∧ isB x.f2 255) (hb : body = str (A ++ seenI x ++ B)) (hz : body.size ≤ 890000) (zr : Nat) (W : World) (hA : At W zr #[.string body, .int .i64 (A.length : Int)] 89) :
    Calls Try.prog 37 #[.pointer (some ⟨zr, 0, none⟩)] W fun e w' => e = .returned (.agg #[.string x.f0, .int .u64 x.f1.f0, .int .u32 x.f1.f1, .int .u8 x.f1.f2, .int .u8 x.f2]) ∧ At w' zr #[.string body, .int .i64 ((A ++ seenI x).length)] 89 ∧ Chg (fun x => x = zr) W w' := by
  obtain ⟨hp, h1, h2, h3, h4⟩ := hx
  unfold isB at h1 h2 h3 h4
  have hp2 : Rec.keyMay x.f0 = true ∧ x.f1.f0 ≤ 281474976710655 ∧ x.f1.f2 < 64 ∧ 1 ≤ x.f2 ∧ x.f2 ≤ 3 := by
    unfold pS at hp
    split at hp
    · split at hp
      · split at hp
        · split at hp
          · exact ⟨by assumption, by assumption, by assumption, by omega, of_decide_eq_true hp⟩
          · cases hp
        · cases hp
      · cases hp
    · cases hp
  obtain ⟨hk, g1, g3, g4, g5⟩ := hp2
  have e : seenI x = (textB x.f0).data.toList ++ ((putB x.f1.f0).data.toList ++ ((putB x.f1.f1).data.toList ++ ((putB x.f1.f2).data.toList ++ (putB x.f2).data.toList))) := by simp [seenI, numsL]
  have n0 := key_at A (((putB x.f1.f0).data.toList ++ ((putB x.f1.f1).data.toList ++ ((putB x.f1.f2).data.toList ++ (putB x.f2).data.toList))) ++ B) x.f0 hk
  have n1 := num_at (A ++ (textB x.f0).data.toList) (((putB x.f1.f1).data.toList ++ ((putB x.f1.f2).data.toList ++ (putB x.f2).data.toList)) ++ B) x.f1.f0 0 281474976710655 h1.1 (by omega) (by omega) (by omega)
  have n2 := num_at ((A ++ (textB x.f0).data.toList) ++ (putB x.f1.f0).data.toList) (((putB x.f1.f2).data.toList ++ (putB x.f2).data.toList) ++ B) x.f1.f1 0 4294967295 h2.1 (by omega) (by omega) (by omega)
  have n3 := num_at (((A ++ (textB x.f0).data.toList) ++ (putB x.f1.f0).data.toList) ++ (putB x.f1.f1).data.toList) ((putB x.f2).data.toList ++ B) x.f1.f2 0 63 h3.1 (by omega) (by omega) (by omega)
  have n4 := num_at ((((A ++ (textB x.f0).data.toList) ++ (putB x.f1.f0).data.toList) ++ (putB x.f1.f1).data.toList) ++ (putB x.f1.f2).data.toList) B x.f2 1 3 h4.1 (by omega) (by omega) (by omega)
  rw [show A ++ (textB x.f0).data.toList ++ (((putB x.f1.f0).data.toList ++ ((putB x.f1.f1).data.toList ++ ((putB x.f1.f2).data.toList ++ (putB x.f2).data.toList))) ++ B) = A ++ seenI x ++ B from by rw [e]; simp only [List.append_assoc], ← hb] at n0
  rw [show (A ++ (textB x.f0).data.toList) ++ (putB x.f1.f0).data.toList ++ (((putB x.f1.f1).data.toList ++ ((putB x.f1.f2).data.toList ++ (putB x.f2).data.toList)) ++ B) = A ++ seenI x ++ B from by rw [e]; simp only [List.append_assoc], ← hb] at n1
  rw [show ((A ++ (textB x.f0).data.toList) ++ (putB x.f1.f0).data.toList) ++ (putB x.f1.f1).data.toList ++ (((putB x.f1.f2).data.toList ++ (putB x.f2).data.toList) ++ B) = A ++ seenI x ++ B from by rw [e]; simp only [List.append_assoc], ← hb] at n2
  rw [show (((A ++ (textB x.f0).data.toList) ++ (putB x.f1.f0).data.toList) ++ (putB x.f1.f1).data.toList) ++ (putB x.f1.f2).data.toList ++ ((putB x.f2).data.toList ++ B) = A ++ seenI x ++ B from by rw [e]; simp only [List.append_assoc], ← hb] at n3
  rw [show ((((A ++ (textB x.f0).data.toList) ++ (putB x.f1.f0).data.toList) ++ (putB x.f1.f1).data.toList) ++ (putB x.f1.f2).data.toList) ++ (putB x.f2).data.toList ++ B = A ++ seenI x ++ B from by rw [e]; simp only [List.append_assoc], ← hb] at n4
  have h := rseen_is zr body x.f0 _ _ _ _ _ _ _ _ _ _ n0 n1 n2 n3 n4 ⟨by omega, by omega⟩ ⟨by omega, by omega⟩ ⟨by omega, by omega⟩ (by omega) W hA
  rw [show A ++ seenI x = ((((A ++ (textB x.f0).data.toList) ++ (putB x.f1.f0).data.toList) ++ (putB x.f1.f1).data.toList) ++ (putB x.f1.f2).data.toList) ++ (putB x.f2).data.toList from by rw [e]; simp only [List.append_assoc]]
  exact h
theorem seen_list (body : ByteArray) (P Q : List UInt8) (l : List S56) (hl : l.length ≤ 4096) (hok : ∀ x, x ∈ l → pS x = true ∧ isB x.f1.f0 18446744073709551615 ∧ isB x.f1.f1 4294967295 ∧ isB x.f1.f2 255 ∧ isB x.f2 255) (hb : body = str (P ++ numsL [(l.length : Int)] ++ l.flatMap seenI ++ Q)) (hz : body.size ≤ 890000) :
    ListIs 36 37 k56 56 body (P.length : Int) ((P ++ numsL [(l.length : Int)] ++ l.flatMap seenI).length : Int) l := by
  intro zr W hA
  have hc := num_at P (l.flatMap seenI ++ Q) (l.length : Int) 0 4096 (by omega) (by omega) (by omega) (by omega)
  rw [show P ++ (putB (l.length : Int)).data.toList ++ (l.flatMap seenI ++ Q) = P ++ numsL [(l.length : Int)] ++ l.flatMap seenI ++ Q from by rw [numsL1]; simp only [List.append_assoc], ← hb, ← numsL1] at hc
  have h := list56_is zr body (P.length : Int) l (fun i => ((P ++ numsL [(l.length : Int)] ++ (l.take i).flatMap seenI).length : Int)) (by rw [hc]; simp) hl (fun i x hx W' hA' => by
    obtain ⟨hi, hxe⟩ := List.getElem?_eq_some_iff.1 hx
    have e1 : (l.take (i + 1)).flatMap seenI = (l.take i).flatMap seenI ++ seenI x := by rw [flat_snoc _ l i hi, hxe]
    have e2 : l.flatMap seenI = ((l.take i).flatMap seenI ++ seenI x) ++ (l.drop (i + 1)).flatMap seenI := by rw [← e1, ← List.flatMap_append, List.take_append_drop]
    have h1 := seen_item body (P ++ numsL [(l.length : Int)] ++ (l.take i).flatMap seenI) ((l.drop (i + 1)).flatMap seenI ++ Q) x (hok x (hxe ▸ List.getElem_mem hi)) (by rw [hb, e2]; simp only [List.append_assoc]) hz zr W' hA'
    rw [e1]
    rw [List.append_assoc (P ++ numsL [(l.length : Int)])] at h1
    exact h1) (by omega) W hA
  rw [List.take_length] at h
  exact h
theorem digs_item (body : ByteArray) (A B : List UInt8) (x : Int) (hx : isB x 18446744073709551615) (hb : body = str (A ++ digsI x ++ B)) (hz : body.size ≤ 890000) (zr : Nat) (W : World) (hA : At W zr #[.string body, .int .i64 (A.length : Int)] 89) :
    Calls Try.prog 39 #[.pointer (some ⟨zr, 0, none⟩)] W fun e w' => e = .returned (.int .u64 x) ∧ At w' zr #[.string body, .int .i64 ((A ++ digsI x).length)] 89 ∧ Chg (fun x => x = zr) W w' := by
  unfold isB at hx
  have e : digsI x = (putB (x / 4294967296)).data.toList ++ (putB (x % 4294967296)).data.toList := by simp [digsI, numsL]
  have n1 := num_at A ((putB (x % 4294967296)).data.toList ++ B) (x / 4294967296) 0 4294967295 (by omega) (by omega) (by omega) (by omega)
  have n2 := num_at (A ++ (putB (x / 4294967296)).data.toList) B (x % 4294967296) 0 4294967295 (by omega) (by omega) (by omega) (by omega)
  rw [show A ++ (putB (x / 4294967296)).data.toList ++ ((putB (x % 4294967296)).data.toList ++ B) = A ++ digsI x ++ B from by rw [e]; simp only [List.append_assoc], ← hb] at n1
  rw [show (A ++ (putB (x / 4294967296)).data.toList) ++ (putB (x % 4294967296)).data.toList ++ B = A ++ digsI x ++ B from by rw [e]; simp only [List.append_assoc], ← hb] at n2
  have h := rdig_is zr body _ _ _ _ _ n1 n2 ⟨by omega, by omega⟩ ⟨by omega, by omega⟩ (by omega) W hA
  rw [show x / 4294967296 * 4294967296 + x % 4294967296 = x from by omega] at h
  rw [show A ++ digsI x = (A ++ (putB (x / 4294967296)).data.toList) ++ (putB (x % 4294967296)).data.toList from by rw [e]; simp only [List.append_assoc]]
  exact h
theorem digs_list (body : ByteArray) (P Q : List UInt8) (l : List Int) (hl : l.length ≤ 4096) (hok : ∀ x, x ∈ l → isB x 18446744073709551615) (hb : body = str (P ++ numsL [(l.length : Int)] ++ l.flatMap digsI ++ Q)) (hz : body.size ≤ 890000) :
    ListIs 38 39 (Kd.int .u64) 50 body (P.length : Int) ((P ++ numsL [(l.length : Int)] ++ l.flatMap digsI).length : Int) l := by
  intro zr W hA
  have hc := num_at P (l.flatMap digsI ++ Q) (l.length : Int) 0 4096 (by omega) (by omega) (by omega) (by omega)
  rw [show P ++ (putB (l.length : Int)).data.toList ++ (l.flatMap digsI ++ Q) = P ++ numsL [(l.length : Int)] ++ l.flatMap digsI ++ Q from by rw [numsL1]; simp only [List.append_assoc], ← hb, ← numsL1] at hc
  have h := listD_is zr body (P.length : Int) l (fun i => ((P ++ numsL [(l.length : Int)] ++ (l.take i).flatMap digsI).length : Int)) (by rw [hc]; simp) hl (fun i x hx W' hA' => by
    obtain ⟨hi, hxe⟩ := List.getElem?_eq_some_iff.1 hx
    have e1 : (l.take (i + 1)).flatMap digsI = (l.take i).flatMap digsI ++ digsI x := by rw [flat_snoc _ l i hi, hxe]
    have e2 : l.flatMap digsI = ((l.take i).flatMap digsI ++ digsI x) ++ (l.drop (i + 1)).flatMap digsI := by rw [← e1, ← List.flatMap_append, List.take_append_drop]
    have h1 := digs_item body (P ++ numsL [(l.length : Int)] ++ (l.take i).flatMap digsI) ((l.drop (i + 1)).flatMap digsI ++ Q) x (hok x (hxe ▸ List.getElem_mem hi)) (by rw [hb, e2]; simp only [List.append_assoc]) hz zr W' hA'
    rw [e1]
    rw [List.append_assoc (P ++ numsL [(l.length : Int)])] at h1
    exact h1) (by omega) W hA
  rw [List.take_length] at h
  exact h
theorem body_len2 {m : M} (h : SmM m) : (bodyL m).length ≤ 800000 := by
  have h1 := news_len h
  have h2 := keys_len h
  have h3 := recs_len h
  have h4 := seen_len h
  have h5 := digs_len h
  have h0 := head_len m
  have k2 := num1_len m.keys.length
  have k3 := num1_len m.recs.length
  have k4 := num1_len m.seen.length
  have k5 := num1_len m.digs.length
  unfold bodyL
  simp only [List.length_append]
  omega
theorem flag_back (b : Bool) : (flagN b == 1) = b := by cases b <;> rfl
set_option maxHeartbeats 4000000 in
/-- A message that may be is read as it was packed. -/
theorem unpack_back (m : M) (hm : mayM m = true) (hs : SmM m) (b c tb : Nat) (w : World) (hc : MCod w b c tb) :
    Calls Try.prog 12 #[.pointer (some ⟨b, 0, none⟩), .string (packS m)] w fun e w' => ∃ A7 g7 A8 g8 A9 g9 A10 g10 A11 g11, e = .returned (.tuple #[.agg #[.int .u8 m.kind, .int .u8 m.fr, .int .u8 m.dst, .int .u32 m.id, .int .u8 m.tg, .int .u8 m.rg, .bool m.flag, .slice A7 m.news.length g7, .slice A8 m.keys.length g8, .slice A9 m.recs.length g9, .slice A10 m.seen.length g10, .slice A11 m.digs.length g11], .int .i64 0]) ∧ (∀ w1 : World, Chg (fun x => x < w.heap.size) w' w1 → HasM m A7 g7 A8 g8 A9 g9 A10 g10 A11 g11 w1) ∧ Sum.IsTab w' tb ∧ Chg (fun x => x = tb) w w' := by
  have hq := (mayM_iff m).1 hm
  obtain ⟨hh, hl, q1, q2, q3, q4⟩ := hq
  unfold headP at hh
  unfold lensP at hl
  have b0 := hs.kind
  have b1 := hs.fr
  have b2 := hs.dst
  have b3 := hs.id
  have b4 := hs.tg
  have b5 := hs.rg
  unfold isB at b0 b1 b2 b3 b4 b5
  have hz := body_len2 hs
  have hbs := body_size m
  have hmay : Frame.mayF m.kind.toNat m.fr.toNat m.dst.toNat = true := by
    unfold Frame.mayF
    exact decide_eq_true (by omega)
  have eS : packS m = Frame.encB m.kind.toNat m.fr.toNat m.dst.toNat (bodyB m) := by
    unfold packS
    rw [if_pos hm]
    unfold Frame.encS
    rw [if_neg (by omega), if_neg (by rw [hmay]; simp)]
  have hd := Frame.dec_enc m.kind.toNat m.fr.toNat m.dst.toNat (bodyB m) hmay (by omega)
  rw [← eS] at hd
  have hSz : (packS m).size ≤ 999000 := by rw [eS, Frame.encB_size]; omega
  have eB : bodyB m = str (bodyL m) := rfl
  have eH : headL m = (putB m.id).data.toList ++ (putB m.tg).data.toList ++ (putB m.rg).data.toList ++ (putB (flagN m.flag)).data.toList ++ numsL [(m.news.length : Int)] := by simp [headL, numsL]
  have fr : 0 ≤ flagN m.flag ∧ flagN m.flag ≤ 1 := by unfold flagN; split <;> omega
  obtain ⟨H0, hH0⟩ : ∃ H, H = (putB m.id).data.toList ++ (putB m.tg).data.toList ++ (putB m.rg).data.toList ++ (putB (flagN m.flag)).data.toList := ⟨_, rfl⟩
  rw [← hH0] at eH
  obtain ⟨R1, hR1⟩ : ∃ R, bodyL m = H0 ++ R := ⟨numsL [(m.news.length : Int)] ++ (m.news.flatMap newsI ++ (numsL [(m.keys.length : Int)] ++ (m.keys.flatMap keysI ++ (numsL [(m.recs.length : Int)] ++ (m.recs.flatMap recsI ++ (numsL [(m.seen.length : Int)] ++ (m.seen.flatMap seenI ++ (numsL [(m.digs.length : Int)] ++ m.digs.flatMap digsI)))))))), by unfold bodyL; rw [eH]; simp only [List.append_assoc]⟩
  have n1 := num_at [] ((putB m.tg).data.toList ++ (putB m.rg).data.toList ++ (putB (flagN m.flag)).data.toList ++ R1) m.id 0 4294967295 b3.1 (by omega) (by omega) (by omega)
  have n2 := num_at ([] ++ (putB m.id).data.toList) ((putB m.rg).data.toList ++ (putB (flagN m.flag)).data.toList ++ R1) m.tg 0 63 b4.1 (by omega) (by omega) (by omega)
  have n3 := num_at (([] ++ (putB m.id).data.toList) ++ (putB m.tg).data.toList) ((putB (flagN m.flag)).data.toList ++ R1) m.rg 0 63 b5.1 (by omega) (by omega) (by omega)
  have n4 := num_at ((([] ++ (putB m.id).data.toList) ++ (putB m.tg).data.toList) ++ (putB m.rg).data.toList) R1 (flagN m.flag) 0 1 fr.1 (by omega) (by omega) (by omega)
  rw [show [] ++ (putB m.id).data.toList ++ ((putB m.tg).data.toList ++ (putB m.rg).data.toList ++ (putB (flagN m.flag)).data.toList ++ R1) = bodyL m from by rw [hR1, hH0]; simp only [List.append_assoc, List.nil_append], ← eB] at n1
  rw [show ([] ++ (putB m.id).data.toList) ++ (putB m.tg).data.toList ++ ((putB m.rg).data.toList ++ (putB (flagN m.flag)).data.toList ++ R1) = bodyL m from by rw [hR1, hH0]; simp only [List.append_assoc, List.nil_append], ← eB] at n2
  rw [show (([] ++ (putB m.id).data.toList) ++ (putB m.tg).data.toList) ++ (putB m.rg).data.toList ++ ((putB (flagN m.flag)).data.toList ++ R1) = bodyL m from by rw [hR1, hH0]; simp only [List.append_assoc, List.nil_append], ← eB] at n3
  rw [show ((([] ++ (putB m.id).data.toList) ++ (putB m.tg).data.toList) ++ (putB m.rg).data.toList) ++ (putB (flagN m.flag)).data.toList ++ R1 = bodyL m from by rw [hR1, hH0]; simp only [List.append_assoc, List.nil_append], ← eB, show (((([] : List UInt8) ++ (putB m.id).data.toList) ++ (putB m.tg).data.toList) ++ (putB m.rg).data.toList) ++ (putB (flagN m.flag)).data.toList = H0 from by rw [hH0]; simp only [List.nil_append]] at n4
  have L7 := news_list (bodyB m) (H0) (numsL [(m.keys.length : Int)] ++ m.keys.flatMap keysI ++ numsL [(m.recs.length : Int)] ++ m.recs.flatMap recsI ++ numsL [(m.seen.length : Int)] ++ m.seen.flatMap seenI ++ numsL [(m.digs.length : Int)] ++ m.digs.flatMap digsI) m.news (by omega) (fun x hx => ⟨List.all_eq_true.1 q1 x hx, (hs.news x hx).1, (hs.news x hx).2.1, (hs.news x hx).2.2⟩) (by rw [eB]; congr 1; unfold bodyL; rw [eH]; simp only [List.append_assoc, List.append_nil]) (by omega)
  have L8 := keys_list (bodyB m) ((H0 ++ numsL [(m.news.length : Int)] ++ m.news.flatMap newsI)) (numsL [(m.recs.length : Int)] ++ m.recs.flatMap recsI ++ numsL [(m.seen.length : Int)] ++ m.seen.flatMap seenI ++ numsL [(m.digs.length : Int)] ++ m.digs.flatMap digsI) m.keys (by omega) (fun x hx => List.all_eq_true.1 q2 x hx) (by rw [eB]; congr 1; unfold bodyL; rw [eH]; simp only [List.append_assoc, List.append_nil]) (by omega)
  have L9 := recs_list (bodyB m) (((H0 ++ numsL [(m.news.length : Int)] ++ m.news.flatMap newsI) ++ numsL [(m.keys.length : Int)] ++ m.keys.flatMap keysI)) (numsL [(m.seen.length : Int)] ++ m.seen.flatMap seenI ++ numsL [(m.digs.length : Int)] ++ m.digs.flatMap digsI) m.recs (by omega) (fun x hx => ⟨List.all_eq_true.1 q3 x hx, (hs.recs x hx).2⟩) (by rw [eB]; congr 1; unfold bodyL; rw [eH]; simp only [List.append_assoc, List.append_nil]) (by omega)
  have L10 := seen_list (bodyB m) ((((H0 ++ numsL [(m.news.length : Int)] ++ m.news.flatMap newsI) ++ numsL [(m.keys.length : Int)] ++ m.keys.flatMap keysI) ++ numsL [(m.recs.length : Int)] ++ m.recs.flatMap recsI)) (numsL [(m.digs.length : Int)] ++ m.digs.flatMap digsI) m.seen (by omega) (fun x hx => ⟨List.all_eq_true.1 q4 x hx, (hs.seen x hx).2.1, (hs.seen x hx).2.2.1, (hs.seen x hx).2.2.2.1, (hs.seen x hx).2.2.2.2⟩) (by rw [eB]; congr 1; unfold bodyL; rw [eH]; simp only [List.append_assoc, List.append_nil]) (by omega)
  have L11 := digs_list (bodyB m) (((((H0 ++ numsL [(m.news.length : Int)] ++ m.news.flatMap newsI) ++ numsL [(m.keys.length : Int)] ++ m.keys.flatMap keysI) ++ numsL [(m.recs.length : Int)] ++ m.recs.flatMap recsI) ++ numsL [(m.seen.length : Int)] ++ m.seen.flatMap seenI)) ([]) m.digs (by omega) (fun x hx => hs.digs x hx) (by rw [eB]; congr 1; unfold bodyL; rw [eH]; simp only [List.append_assoc, List.append_nil]) (by omega)
  rw [show ((((((H0 ++ numsL [(m.news.length : Int)] ++ m.news.flatMap newsI) ++ numsL [(m.keys.length : Int)] ++ m.keys.flatMap keysI) ++ numsL [(m.recs.length : Int)] ++ m.recs.flatMap recsI) ++ numsL [(m.seen.length : Int)] ++ m.seen.flatMap seenI) ++ numsL [(m.digs.length : Int)] ++ m.digs.flatMap digsI).length : Int) = ((bodyB m).size : Int) from by rw [hbs]; unfold bodyL; rw [eH]] at L11
  have h := unpack_is b c tb (packS m) (bodyB m) m.kind.toNat m.fr.toNat m.dst.toNat m.id m.tg m.rg (flagN m.flag) _ _ _ _ _ _ _ _ m.flag m.news m.keys m.recs m.seen m.digs w hc hSz hd (by omega) n1 n2 n3 n4 b3 ⟨by omega, by omega⟩ ⟨by omega, by omega⟩ (flag_back _) L7 L8 L9 L10 L11
  rw [Int.toNat_of_nonneg b0.1, Int.toNat_of_nonneg b1.1, Int.toNat_of_nonneg b2.1] at h
  exact h
end Go.Proofs.Ytdjompbhlkgmbaa.Msg
end

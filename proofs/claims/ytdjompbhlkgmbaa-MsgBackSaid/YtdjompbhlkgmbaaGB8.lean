/- What the row needs, laid together out of MsgSt, MsgDoor, MsgUnZ, MsgItems, MsgEnc (own texts and texts printed for this seat; wip/tools/group.py). -/
import Derived.Test.YtdjompbhlkgmbaaGB5
import Derived.Test.YtdjompbhlkgmbaaGB6
import Derived.Test.YtdjompbhlkgmbaaGB7
import Derived.Defers
import Derived.Recover
import Derived.Deep.Cut
import Derived.Laws.Bits64b
section
/- Pack's state: a builder that is written, the message's own block beside it; msg.New (own text). -/
namespace Go.Proofs.Ytdjompbhlkgmbaa.Msg
open Go.RowKit Go.Proofs.Ytdjompbhlkgmbaa.Mem Go.Proofs.YtdjompbhlkgmbaaW.PrintWords Go.Proofs.YtdjompbhlkgmbaaW.PrintLast Go.Proofs.YtdjompbhlkgmbaaW.PrintMore Go.Proofs.Ytdjompbhlkgmbaa.PMsg
open Go.Proofs.Ytdjompbhlkgmbaa.Num (putB putE textB)
set_option linter.unusedVariables false
set_option linter.unusedSimpArgs false
/-- The codec of messages stands at b. -/
structure MCod (w : World) (b c tb : Nat) : Prop where
  a : At w b #[.pointer (some ⟨c, 0, none⟩)] 60
  c : Frame.Cod w c tb
  n : b ≠ tb
theorem MCod.below {w w' : World} {b c tb : Nat} (h : MCod w b c tb) (k : Below w.heap.size w w') : MCod w' b c tb := ⟨at_below h.a k, Frame.cod_below h.c k, h.n⟩
theorem MCod.chg {w w' : World} {b c tb : Nat} (h : MCod w b c tb) (t : Sum.IsTab w' tb) (k : Chg (fun x => x = tb) w w') : MCod w' b c tb := ⟨at_chg h.a k h.n, Frame.cod_chg h.c t k, h.n⟩
theorem mnew (w : World) : Calls Try.prog 9 #[] w fun e w' => ∃ b c tb, e = .returned (.pointer (some ⟨b, 0, none⟩)) ∧ MCod w' b c tb ∧ w.heap.size ≤ b ∧ w.heap.size ≤ c ∧ w.heap.size ≤ tb ∧ b < w'.heap.size ∧ c < w'.heap.size ∧ tb < w'.heap.size ∧ Below w.heap.size w w' := by
  go_enter Try.func9, Try.ntmps9
  go_wp2_with (fail)
  refine (Frame.fnew w).mono ?_
  rintro e w1 ⟨c, tb, rfl, hc, g1, g2, g3, g4, b1⟩
  have HC := Lib.hid hc
  have HB := Lib.hid b1
  clear hc b1
  go_wp2_with (fail)
  go_ret
  have ha := at_new w1 #[.pointer (some ⟨c, 0, none⟩)] 60
  exact ⟨w1.heap.size, c, tb, rfl, ⟨ha, Frame.cod_al HC.out, by omega⟩, by omega, g1, g2, ha.lt, Nat.lt_of_lt_of_le g3 (below_al (Below.refl w1.heap.size w1)).size, Nat.lt_of_lt_of_le g4 (below_al (Below.refl w1.heap.size w1)).size, below_al HB.out⟩
/-! ### The state -/
structure St (w0 : World) (z zb : Nat) (CE : Array Value) (T : List UInt8) (w : World) : Prop where
  hd : Lib.IsBuilderF 67 5 w0.heap.size zb (Lib.byteCells T) w
  hb : Below w0.heap.size w0 w
  az : w.heap[z]? = some (.cells CE 29 (0, 0))
  ne : z ≠ zb
theorem St.below {w0 : World} {z zb : Nat} {CE : Array Value} {T : List UInt8} {w w' : World} (h : St w0 z zb CE T w) (k : Below w.heap.size w w') : St w0 z zb CE T w' :=
  ⟨build_below h.hd k, below_from h.hb (below_less k h.hb.size), blk_below h.az k, h.ne⟩
theorem St.alloc {w0 : World} {z zb : Nat} {CE : Array Value} {T : List UInt8} {w : World} (h : St w0 z zb CE T w) (o : Obj) : St w0 z zb CE T (w.alloc o) := h.below (below_alloc (Below.refl _ _) o)
theorem St.drew {w0 : World} {z zb : Nat} {CE : Array Value} {T : List UInt8} {w : World} (h : St w0 z zb CE T w) : St w0 z zb CE T w.drew := h.below (below_drew (Below.refl _ _))
theorem St.lt {w0 : World} {z zb : Nat} {CE : Array Value} {T : List UInt8} {w : World} (h : St w0 z zb CE T w) : zb < w.heap.size := by
  rcases h.hd with h | h <;> exact h.lt
theorem St.step {w0 : World} {z zb : Nat} {CE : Array Value} {T T' : List UInt8} {w w' : World} (h : St w0 z zb CE T w) (hd : Lib.IsBuilderF 67 5 w0.heap.size zb (Lib.byteCells T') w') (hb : Below w0.heap.size w w') (hk : Lib.OthersKept 5 (some zb) w w') : St w0 z zb CE T' w' :=
  ⟨hd, below_from h.hb hb, hk z _ h.az (fun e => h.ne (Option.some.inj e)) (fun c fz e => by injection e with _ e _; cases e), h.ne⟩
theorem St.num {w0 : World} {z zb : Nat} {CE : Array Value} {T : List UInt8} {w : World} (h : St w0 z zb CE T w) (l : List Int) (hl : l.length ≤ 100) (hx : ∀ x, x ∈ l → 0 ≤ x) (hT : T.length ≤ 1000000) :
    Calls Try.prog 19 #[.pointer (some ⟨zb, 0, none⟩), .slice (some ⟨w.heap.size, 0, none⟩) l.length l.length] (w.alloc (.cells (numC l) 50)) fun e w' => e = .returned (.tuple #[]) ∧ St w0 z zb CE (T ++ numsL l) w' ∧ Lib.OthersKept 5 (some zb) w w' := by
  have h1 := h.alloc (.cells (numC l) 50)
  refine (numbers_c w0.heap.size zb w.heap.size l.length T l _ (heap_alloc_new w _) (by have := h.lt; omega) (Nat.le_refl _) hl hx hT h1.hd h1.hb.size).mono ?_
  rintro e w' ⟨rfl, hd, hb, hk⟩
  exact ⟨rfl, h1.step hd hb hk, ((Lib.OthersKept.refl _ _ w).alloc _).trans hk⟩
theorem St.num1 {w0 : World} {z zb : Nat} {CE : Array Value} {T : List UInt8} {w : World} (h : St w0 z zb CE T w) (a : Int) (ha : 0 ≤ a) (hT : T.length ≤ 1000000) :
    Calls Try.prog 19 #[.pointer (some ⟨zb, 0, none⟩), .slice (some ⟨w.heap.size, 0, none⟩) 1 1] (w.alloc (.cells #[.int .u64 a] 50)) fun e w' => e = .returned (.tuple #[]) ∧ St w0 z zb CE (T ++ numsL [a]) w' ∧ Lib.OthersKept 5 (some zb) w w' :=
  h.num [a] (by simp) (by simp [ha]) hT
theorem St.num2 {w0 : World} {z zb : Nat} {CE : Array Value} {T : List UInt8} {w : World} (h : St w0 z zb CE T w) (a b : Int) (ha : 0 ≤ a) (hb : 0 ≤ b) (hT : T.length ≤ 1000000) :
    Calls Try.prog 19 #[.pointer (some ⟨zb, 0, none⟩), .slice (some ⟨w.heap.size, 0, none⟩) 2 2] (w.alloc (.cells #[.int .u64 a, .int .u64 b] 50)) fun e w' => e = .returned (.tuple #[]) ∧ St w0 z zb CE (T ++ numsL [a, b]) w' ∧ Lib.OthersKept 5 (some zb) w w' :=
  h.num [a, b] (by simp) (by simp [ha, hb]) hT
theorem St.num3 {w0 : World} {z zb : Nat} {CE : Array Value} {T : List UInt8} {w : World} (h : St w0 z zb CE T w) (a b c : Int) (ha : 0 ≤ a) (hb : 0 ≤ b) (hc : 0 ≤ c) (hT : T.length ≤ 1000000) :
    Calls Try.prog 19 #[.pointer (some ⟨zb, 0, none⟩), .slice (some ⟨w.heap.size, 0, none⟩) 3 3] (w.alloc (.cells #[.int .u64 a, .int .u64 b, .int .u64 c] 50)) fun e w' => e = .returned (.tuple #[]) ∧ St w0 z zb CE (T ++ numsL [a, b, c]) w' ∧ Lib.OthersKept 5 (some zb) w w' :=
  h.num [a, b, c] (by simp) (by simp [ha, hb, hc]) hT
theorem St.num4 {w0 : World} {z zb : Nat} {CE : Array Value} {T : List UInt8} {w : World} (h : St w0 z zb CE T w) (a b c d : Int) (ha : 0 ≤ a) (hb : 0 ≤ b) (hc : 0 ≤ c) (hd : 0 ≤ d) (hT : T.length ≤ 1000000) :
    Calls Try.prog 19 #[.pointer (some ⟨zb, 0, none⟩), .slice (some ⟨w.heap.size, 0, none⟩) 4 4] (w.alloc (.cells #[.int .u64 a, .int .u64 b, .int .u64 c, .int .u64 d] 50)) fun e w' => e = .returned (.tuple #[]) ∧ St w0 z zb CE (T ++ numsL [a, b, c, d]) w' ∧ Lib.OthersKept 5 (some zb) w w' :=
  h.num [a, b, c, d] (by simp) (by simp [ha, hb, hc, hd]) hT
theorem St.num5 {w0 : World} {z zb : Nat} {CE : Array Value} {T : List UInt8} {w : World} (h : St w0 z zb CE T w) (a b c d e : Int) (ha : 0 ≤ a) (hb : 0 ≤ b) (hc : 0 ≤ c) (hd : 0 ≤ d) (he : 0 ≤ e) (hT : T.length ≤ 1000000) :
    Calls Try.prog 19 #[.pointer (some ⟨zb, 0, none⟩), .slice (some ⟨w.heap.size, 0, none⟩) 5 5] (w.alloc (.cells #[.int .u64 a, .int .u64 b, .int .u64 c, .int .u64 d, .int .u64 e] 50)) fun e' w' => e' = .returned (.tuple #[]) ∧ St w0 z zb CE (T ++ numsL [a, b, c, d, e]) w' ∧ Lib.OthersKept 5 (some zb) w w' :=
  h.num [a, b, c, d, e] (by simp) (by simp [ha, hb, hc, hd, he]) hT
theorem St.put {w0 : World} {z zb : Nat} {CE : Array Value} {T : List UInt8} {w : World} (h : St w0 z zb CE T w) (s : ByteArray) (hs : s.size ≤ 1000000) (hT : T.length ≤ 1000000) :
    Calls Try.prog 20 #[.pointer (some ⟨zb, 0, none⟩), .string s] w fun e w' => e = .returned (.tuple #[.int .i64 s.size, .nilIface]) ∧ St w0 z zb CE (T ++ s.data.toList) w' ∧ Lib.OthersKept 5 (some zb) w w' := by
  refine (writes w0.heap.size zb (Lib.byteCells T) s w h.hd (by rw [Lib.byteCells_length]; omega) h.hb.size).mono ?_
  rintro e w' ⟨rfl, hd, hb, hk⟩
  exact ⟨rfl, h.step (by rw [Lib.byteCells_append]; exact hd) hb hk, hk⟩
theorem St.str {w0 : World} {z zb : Nat} {CE : Array Value} {T : List UInt8} {w : World} (h : St w0 z zb CE T w) (h0 : T ≠ []) :
    Calls Try.prog 24 #[.pointer (some ⟨zb, 0, none⟩)] w fun e w' => e = .returned (.string ⟨T.toArray⟩) ∧ Below w0.heap.size w w' ∧ Lib.OthersKept 5 (some zb) w w' := str_one _ _ _ _ h.hd h0
theorem St.new {w0 w : World} {z : Nat} {CE : Array Value} (hb : Below w0.heap.size w0 w) (az : w.heap[z]? = some (.cells CE 29 (0, 0))) : St w0 z w.heap.size CE [] (w.alloc (.cells #[.pointer none, .slice none 0 0] 67)) :=
  ⟨.inl ⟨hb.size, .slice none 0 0, heap_alloc_new w _, World.ownsRowF_nil _ _ _ _, by simp [Value.ownBlock]⟩, below_alloc hb _, blk_alloc az _, by have := blk_lt az; omega⟩
end Go.Proofs.Ytdjompbhlkgmbaa.Msg
end
section
/- Unpack's door: its results lie in two slots that no later operation turns; the deferred closure's contracts (own text). -/
namespace Go.Proofs.Ytdjompbhlkgmbaa.Msg
open Go.RowKit Go.Proofs.Ytdjompbhlkgmbaa.Mem Go.Proofs.YtdjompbhlkgmbaaW.PrintWords Go.Proofs.YtdjompbhlkgmbaaW.PrintLast Go.Proofs.YtdjompbhlkgmbaaW.PrintMore
set_option linter.unusedVariables false
set_option linter.unusedSimpArgs false
theorem leaves_imp {P : Program} {fn : Func} {t t' : Array Value} (h : results fn t = results fn t') {R : Ending → World → Prop} : ∀ (ds : List Deferred) (u : FrameMode) (w : World), Leaves P fn t R ds u w → Leaves P fn t' R ds u w
  | [], .returning, w, ⟨v, h1, h2⟩ => ⟨v, by rw [← h]; exact h1, h2⟩
  | [], .panicking chain, w, h1 => h1
  | [], .run, _, h1 => h1
  | d :: ds, u, w, ⟨h1, fv, cap, f, args, h2, h3, h4⟩ => ⟨h1, fv, cap, f, args, h2, h3, h4.mono fun e u' w' => by
      cases e with
      | returned v => exact leaves_imp h ds (settle u') w'
      | panicked chain => exact leaves_imp h ds (raised u' chain) w'
      | outgrown => exact id⟩
theorem results12 (t : Array Value) (d : Nat) (v : Value) (h4 : d ≠ 4) (h5 : d ≠ 5) : results Try.f12 (t.setIfInBounds d v) = results Try.f12 t := by
  have e4 : (t.setIfInBounds d v).getD 4 undef = t.getD 4 undef := by simp [Array.getD_eq_getD_getElem?, Array.getElem?_setIfInBounds_ne h4]
  have e5 : (t.setIfInBounds d v).getD 5 undef = t.getD 5 undef := by simp [Array.getD_eq_getD_getElem?, Array.getElem?_setIfInBounds_ne h5]
  unfold results
  rw [show Try.f12.results = #[ResultVar.cell 4 29, ResultVar.cell 5 32] from by kernel_rfl]
  simp only [List.mapM_toArray, List.mapM_cons, List.mapM_nil, e4, e5]
theorem put12 {R : Ending → World → Prop} {d : Nat} {v : Value} {c : List PanicEntry} {a : Act} {w : World} (h4 : d ≠ 4) (h5 : d ≠ 5) (h : bodyPostD Try.prog Try.f12 R (.panic c) (a.put (some d) v) w) : bodyPostD Try.prog Try.f12 R (.panic c) a w :=
  leaves_imp (results12 a.tmps d v h4 h5) _ _ _ h
theorem results_un (t : Array Value) (z4 z5 : Nat) (w : World) (u0 u1 u2 u3 u4 u5 u6 u7 u8 u9 u10 u11 x : Value) (h4 : t.getD 4 undef = .pointer (some ⟨z4, 0, none⟩)) (h5 : t.getD 5 undef = .pointer (some ⟨z5, 0, none⟩)) (hz : At w z4 #[u0, u1, u2, u3, u4, u5, u6, u7, u8, u9, u10, u11] 29) (he : At w z5 #[x] 32) :
    (results Try.f12 t).run Try.prog w = .ok (.tuple #[.agg #[u0, u1, u2, u3, u4, u5, u6, u7, u8, u9, u10, u11], x]) w := by
  have e0 : w.cell? ⟨z4, 0, none⟩ = some u0 := hz.cell 0
  have e1 : w.cell? ⟨z4, 1, none⟩ = some u1 := hz.cell 1
  have e2 : w.cell? ⟨z4, 2, none⟩ = some u2 := hz.cell 2
  have e3 : w.cell? ⟨z4, 3, none⟩ = some u3 := hz.cell 3
  have e4 : w.cell? ⟨z4, 4, none⟩ = some u4 := hz.cell 4
  have e5 : w.cell? ⟨z4, 5, none⟩ = some u5 := hz.cell 5
  have e6 : w.cell? ⟨z4, 6, none⟩ = some u6 := hz.cell 6
  have e7 : w.cell? ⟨z4, 7, none⟩ = some u7 := hz.cell 7
  have e8 : w.cell? ⟨z4, 8, none⟩ = some u8 := hz.cell 8
  have e9 : w.cell? ⟨z4, 9, none⟩ = some u9 := hz.cell 9
  have e10 : w.cell? ⟨z4, 10, none⟩ = some u10 := hz.cell 10
  have e11 : w.cell? ⟨z4, 11, none⟩ = some u11 := hz.cell 11
  have e : w.cell? ⟨z5, 0, none⟩ = some x := he.cell 0
  unfold results
  rw [show Try.f12.results = #[ResultVar.cell 4 29, ResultVar.cell 5 32] from by kernel_rfl]
  rw [Array.getD_eq_getD_getElem?] at h4 h5
  simp [List.mapM_toArray, h4, h5, go_sem, *]
theorem catch_idle (z4 z5 : Nat) (w : World) :
    CallsD Try.prog 28 #[.pointer (some ⟨z4, 0, none⟩), .pointer (some ⟨z5, 0, none⟩)] .returning w fun e u' w' => e = .returned (.tuple #[]) ∧ u' = .returning ∧ w' = w := by
  refine callsD_of_wpS Try.func28 rfl fun c₀ cs hu => ?_
  apply wpS_seq
  apply wpS_region
  simp [wpOpsS, go_sem, recoverD, hu, Try.ntmps28, Exit.thenS]
  apply wpS_seq
  apply wpS_region
  simp [wpOpsS, go_sem, Exit.thenS]
  refine wpS_cond (t := false) (by simp [Act.eval, Array.replicate]) ?_
  simp only [Bool.false_eq_true, if_false]
  refine wpS_of_wp (wp_skip ?_)
  cases c₀
  simp_all [bodyPostS, results, Try.results28]
end Go.Proofs.Ytdjompbhlkgmbaa.Msg
end
section
/- Unpack of the chapter's example (own text; written by wip/tools/gen_msgunz.py). -/
namespace Go.Proofs.Ytdjompbhlkgmbaa.Msg
open Go.RowKit Go.Proofs.Ytdjompbhlkgmbaa.Mem Go.Proofs.YtdjompbhlkgmbaaW.PrintWords Go.Proofs.YtdjompbhlkgmbaaW.PrintLast Go.Proofs.YtdjompbhlkgmbaaW.PrintMore
set_option linter.unusedVariables false
set_option linter.unusedSimpArgs false
theorem at_set12_ne {w : World} {b b' : Nat} {v0 v1 v2 v3 v4 v5 v6 v7 v8 v9 v10 v11 : Value} {cs : Array Value} {t : TypeId} (h : At w b cs t) (hne : b ≠ b') : At ((((((((((((w.setCell ⟨b', 0, none⟩ (v0)).setCell ⟨b', 1, none⟩ (v1)).setCell ⟨b', 2, none⟩ (v2)).setCell ⟨b', 3, none⟩ (v3)).setCell ⟨b', 4, none⟩ (v4)).setCell ⟨b', 5, none⟩ (v5)).setCell ⟨b', 6, none⟩ (v6)).setCell ⟨b', 7, none⟩ (v7)).setCell ⟨b', 8, none⟩ (v8)).setCell ⟨b', 9, none⟩ (v9)).setCell ⟨b', 10, none⟩ (v10)).setCell ⟨b', 11, none⟩ (v11)) b cs t :=
  at_set_ne (hne := hne) (at_set_ne (hne := hne) (at_set_ne (hne := hne) (at_set_ne (hne := hne) (at_set_ne (hne := hne) (at_set_ne (hne := hne) (at_set_ne (hne := hne) (at_set_ne (hne := hne) (at_set_ne (hne := hne) (at_set_ne (hne := hne) (at_set_ne (hne := hne) (at_set_ne (hne := hne) (h))))))))))))
theorem at_set12 {w : World} {b : Nat} {v0 v1 v2 v3 v4 v5 v6 v7 v8 v9 v10 v11 u0 u1 u2 u3 u4 u5 u6 u7 u8 u9 u10 u11 : Value} {t : TypeId} (h : At w b #[u0, u1, u2, u3, u4, u5, u6, u7, u8, u9, u10, u11] t) : At ((((((((((((w.setCell ⟨b, 0, none⟩ (v0)).setCell ⟨b, 1, none⟩ (v1)).setCell ⟨b, 2, none⟩ (v2)).setCell ⟨b, 3, none⟩ (v3)).setCell ⟨b, 4, none⟩ (v4)).setCell ⟨b, 5, none⟩ (v5)).setCell ⟨b, 6, none⟩ (v6)).setCell ⟨b, 7, none⟩ (v7)).setCell ⟨b, 8, none⟩ (v8)).setCell ⟨b, 9, none⟩ (v9)).setCell ⟨b, 10, none⟩ (v10)).setCell ⟨b, 11, none⟩ (v11)) b #[v0, v1, v2, v3, v4, v5, v6, v7, v8, v9, v10, v11] t := by
  have h0 : At (w.setCell ⟨b, 0, none⟩ v0) b #[v0, u1, u2, u3, u4, u5, u6, u7, u8, u9, u10, u11] t := at_set' h rfl
  have h1 : At ((w.setCell ⟨b, 0, none⟩ v0).setCell ⟨b, 1, none⟩ v1) b #[v0, v1, u2, u3, u4, u5, u6, u7, u8, u9, u10, u11] t := at_set' h0 rfl
  have h2 : At (((w.setCell ⟨b, 0, none⟩ v0).setCell ⟨b, 1, none⟩ v1).setCell ⟨b, 2, none⟩ v2) b #[v0, v1, v2, u3, u4, u5, u6, u7, u8, u9, u10, u11] t := at_set' h1 rfl
  have h3 : At ((((w.setCell ⟨b, 0, none⟩ v0).setCell ⟨b, 1, none⟩ v1).setCell ⟨b, 2, none⟩ v2).setCell ⟨b, 3, none⟩ v3) b #[v0, v1, v2, v3, u4, u5, u6, u7, u8, u9, u10, u11] t := at_set' h2 rfl
  have h4 : At (((((w.setCell ⟨b, 0, none⟩ v0).setCell ⟨b, 1, none⟩ v1).setCell ⟨b, 2, none⟩ v2).setCell ⟨b, 3, none⟩ v3).setCell ⟨b, 4, none⟩ v4) b #[v0, v1, v2, v3, v4, u5, u6, u7, u8, u9, u10, u11] t := at_set' h3 rfl
  have h5 : At ((((((w.setCell ⟨b, 0, none⟩ v0).setCell ⟨b, 1, none⟩ v1).setCell ⟨b, 2, none⟩ v2).setCell ⟨b, 3, none⟩ v3).setCell ⟨b, 4, none⟩ v4).setCell ⟨b, 5, none⟩ v5) b #[v0, v1, v2, v3, v4, v5, u6, u7, u8, u9, u10, u11] t := at_set' h4 rfl
  have h6 : At (((((((w.setCell ⟨b, 0, none⟩ v0).setCell ⟨b, 1, none⟩ v1).setCell ⟨b, 2, none⟩ v2).setCell ⟨b, 3, none⟩ v3).setCell ⟨b, 4, none⟩ v4).setCell ⟨b, 5, none⟩ v5).setCell ⟨b, 6, none⟩ v6) b #[v0, v1, v2, v3, v4, v5, v6, u7, u8, u9, u10, u11] t := at_set' h5 rfl
  have h7 : At ((((((((w.setCell ⟨b, 0, none⟩ v0).setCell ⟨b, 1, none⟩ v1).setCell ⟨b, 2, none⟩ v2).setCell ⟨b, 3, none⟩ v3).setCell ⟨b, 4, none⟩ v4).setCell ⟨b, 5, none⟩ v5).setCell ⟨b, 6, none⟩ v6).setCell ⟨b, 7, none⟩ v7) b #[v0, v1, v2, v3, v4, v5, v6, v7, u8, u9, u10, u11] t := at_set' h6 rfl
  have h8 : At (((((((((w.setCell ⟨b, 0, none⟩ v0).setCell ⟨b, 1, none⟩ v1).setCell ⟨b, 2, none⟩ v2).setCell ⟨b, 3, none⟩ v3).setCell ⟨b, 4, none⟩ v4).setCell ⟨b, 5, none⟩ v5).setCell ⟨b, 6, none⟩ v6).setCell ⟨b, 7, none⟩ v7).setCell ⟨b, 8, none⟩ v8) b #[v0, v1, v2, v3, v4, v5, v6, v7, v8, u9, u10, u11] t := at_set' h7 rfl
  have h9 : At ((((((((((w.setCell ⟨b, 0, none⟩ v0).setCell ⟨b, 1, none⟩ v1).setCell ⟨b, 2, none⟩ v2).setCell ⟨b, 3, none⟩ v3).setCell ⟨b, 4, none⟩ v4).setCell ⟨b, 5, none⟩ v5).setCell ⟨b, 6, none⟩ v6).setCell ⟨b, 7, none⟩ v7).setCell ⟨b, 8, none⟩ v8).setCell ⟨b, 9, none⟩ v9) b #[v0, v1, v2, v3, v4, v5, v6, v7, v8, v9, u10, u11] t := at_set' h8 rfl
  have h10 : At (((((((((((w.setCell ⟨b, 0, none⟩ v0).setCell ⟨b, 1, none⟩ v1).setCell ⟨b, 2, none⟩ v2).setCell ⟨b, 3, none⟩ v3).setCell ⟨b, 4, none⟩ v4).setCell ⟨b, 5, none⟩ v5).setCell ⟨b, 6, none⟩ v6).setCell ⟨b, 7, none⟩ v7).setCell ⟨b, 8, none⟩ v8).setCell ⟨b, 9, none⟩ v9).setCell ⟨b, 10, none⟩ v10) b #[v0, v1, v2, v3, v4, v5, v6, v7, v8, v9, v10, u11] t := at_set' h9 rfl
  have h11 : At ((((((((((((w.setCell ⟨b, 0, none⟩ v0).setCell ⟨b, 1, none⟩ v1).setCell ⟨b, 2, none⟩ v2).setCell ⟨b, 3, none⟩ v3).setCell ⟨b, 4, none⟩ v4).setCell ⟨b, 5, none⟩ v5).setCell ⟨b, 6, none⟩ v6).setCell ⟨b, 7, none⟩ v7).setCell ⟨b, 8, none⟩ v8).setCell ⟨b, 9, none⟩ v9).setCell ⟨b, 10, none⟩ v10).setCell ⟨b, 11, none⟩ v11) b #[v0, v1, v2, v3, v4, v5, v6, v7, v8, v9, v10, v11] t := at_set' h10 rfl
  exact h11
theorem below_set12 {w W : World} {b : Nat} {v0 v1 v2 v3 v4 v5 v6 v7 v8 v9 v10 v11 : Value} (h : Below w.heap.size w W) (hb : w.heap.size ≤ b) : Below w.heap.size w ((((((((((((W.setCell ⟨b, 0, none⟩ (v0)).setCell ⟨b, 1, none⟩ (v1)).setCell ⟨b, 2, none⟩ (v2)).setCell ⟨b, 3, none⟩ (v3)).setCell ⟨b, 4, none⟩ (v4)).setCell ⟨b, 5, none⟩ (v5)).setCell ⟨b, 6, none⟩ (v6)).setCell ⟨b, 7, none⟩ (v7)).setCell ⟨b, 8, none⟩ (v8)).setCell ⟨b, 9, none⟩ (v9)).setCell ⟨b, 10, none⟩ (v10)).setCell ⟨b, 11, none⟩ (v11)) :=
  below_new (below_new (below_new (below_new (below_new (below_new (below_new (below_new (below_new (below_new (below_new (below_new (h) hb) hb) hb) hb) hb) hb) hb) hb) hb) hb) hb) hb
theorem chg_le {S T : Nat → Prop} {w w' : World} (h : Chg S w w') (k : ∀ x, S x → T x) : Chg T w w' := ⟨h.os, h.tape, h.output, h.size, fun i hi hs => h.block i hi (fun g => hs (k i g))⟩
theorem step_ {P : Program} {ops : Array Oper} {Q : Exit → Act → World → Prop} {i : Nat} {rest : List Nat} {oi : Oper} {a : Act} {w : World} (hi : ops[i]? = some oi)
    (h : if Region.wanted oi (yielded ops a.tmps) = true then Oper.wp P oi a w (wpOps P ops Q rest) Q else wpOps P ops Q rest (a.put oi.dst undef) w) : wpOps P ops Q (i :: rest) a w := by
  rw [wpOps, hi]
  simp only []
  split at h
  · rename_i hw
    rw [if_pos hw]
    exact .inl h
  · rename_i hw
    rw [if_neg hw]
    exact h
theorem tb_chgS {S : Nat → Prop} {w w' : World} {b : Nat} {d s : Int} {f : Nat → Nat} (h : Sum.Tb w b d s f) (k : Chg S w w') (hne : ¬ S b) : Sum.Tb w' b d s f := by
  have hl := World.block_lt_of_cell? w _ h.c0
  have hb := k.block b hl hne
  have hc : ∀ i, w'.cell? ⟨b, i, none⟩ = w.cell? ⟨b, i, none⟩ := fun i => by unfold World.cell?; simp only [hb]
  have hf : ∀ i, w'.frozen? ⟨b, i, none⟩ = w.frozen? ⟨b, i, none⟩ := fun i => by unfold World.frozen?; simp only [hb]
  exact ⟨(hc 0).trans h.c0, (hc 1).trans h.c1, fun i hi => (hc _).trans (h.cE i hi), fun i hi => (hf _).trans (h.z i hi)⟩
theorem is_chgS {S : Nat → Prop} {w w' : World} {b : Nat} (h : Sum.IsTab w b) (k : Chg S w w') (hne : ¬ S b) : Sum.IsTab w' b := h.imp (fun h => tb_chgS h k hne) (fun h => tb_chgS h k hne)
theorem chg_set12 {S : Nat → Prop} {w w' : World} {b : Nat} {v0 v1 v2 v3 v4 v5 v6 v7 v8 v9 v10 v11 : Value} (h : Chg S w w') (hb : S b) : Chg S w ((((((((((((w'.setCell ⟨b, 0, none⟩ (v0)).setCell ⟨b, 1, none⟩ (v1)).setCell ⟨b, 2, none⟩ (v2)).setCell ⟨b, 3, none⟩ (v3)).setCell ⟨b, 4, none⟩ (v4)).setCell ⟨b, 5, none⟩ (v5)).setCell ⟨b, 6, none⟩ (v6)).setCell ⟨b, 7, none⟩ (v7)).setCell ⟨b, 8, none⟩ (v8)).setCell ⟨b, 9, none⟩ (v9)).setCell ⟨b, 10, none⟩ (v10)).setCell ⟨b, 11, none⟩ (v11)) := chg_set (chg_set (chg_set (chg_set (chg_set (chg_set (chg_set (chg_set (chg_set (chg_set (chg_set (chg_set h hb) hb) hb) hb) hb) hb) hb) hb) hb) hb) hb) hb
def zB : ByteArray := ⟨#[0, 0, 0, 0, 0, 0, 0, 0, 0]⟩
theorem numZ : numR zB 0 0 4294967295 = (0, 1, 0) ∧ numR zB 1 0 63 = (0, 2, 0) ∧ numR zB 2 0 63 = (0, 3, 0) ∧ numR zB 3 0 1 = (0, 4, 0) ∧ numR zB 4 0 4096 = (0, 5, 0) ∧ numR zB 5 0 4096 = (0, 6, 0) ∧ numR zB 6 0 4096 = (0, 7, 0) ∧ numR zB 7 0 4096 = (0, 8, 0) ∧ numR zB 8 0 4096 = (0, 9, 0) := by
  refine ⟨?_, ?_, ?_, ?_, ?_, ?_, ?_, ?_, ?_⟩ <;> kernel_rfl
set_option maxRecDepth 100000 in
set_option maxHeartbeats 1000000 in
theorem unpackZ (b c tb : Nat) (S : ByteArray) (w : World) (hc : MCod w b c tb) (hS : S.size ≤ 999000) (hd : Frame.decR S = (1, 2, 3, zB, 0)) :
    Calls Try.prog 12 #[.pointer (some ⟨b, 0, none⟩), .string S] w fun e w' => e = .returned (.tuple #[.agg #[.int .u8 1, .int .u8 2, .int .u8 3, .int .u32 0, .int .u8 0, .int .u8 0, .bool false, .slice none 0 0, .slice none 0 0, .slice none 0 0, .slice none 0 0, .slice none 0 0], .int .i64 0]) ∧ Sum.IsTab w' tb ∧ Chg (fun x => x = tb) w w' := by
  have hmf : ∀ (fn : Fn) (first cap : Array Value) (w : World), (Instr.makeFunc fn first cap).run Try.prog w = .ok (.func fn first cap) w := fun _ _ _ _ => rfl
  have HC := Lib.hid hc
  have DE := Lib.hid (show ∀ (W : World) (h : Frame.Cod W c tb), Calls Try.prog 27 #[.pointer (some ⟨c, 0, none⟩), .string S] W fun e w' => e = .returned (.tuple #[.agg #[.int .u8 1, .int .u8 2, .int .u8 3, .string zB], .int .i64 0]) ∧ Sum.IsTab w' tb ∧ Chg (fun x => x = tb) W w' from fun W h => by
    have := Frame.pdec c tb S W h hS
    rw [hd] at this
    exact this)
  clear hc hd hS
  go_enter_defers Try.func12, Try.ntmps12
  go_upto_region 3 with (fail)
  have AZ := Lib.hid (at_alloc (o := .cells #[.int .i64 0] 32) (at_new w #[.int .u8 0, .int .u8 0, .int .u8 0, .int .u32 0, .int .u8 0, .int .u8 0, .bool false, .slice none 0 0, .slice none 0 0, .slice none 0 0, .slice none 0 0, .slice none 0 0] 29))
  have AE := Lib.hid (at_new (w.alloc (.cells #[.int .u8 0, .int .u8 0, .int .u8 0, .int .u32 0, .int .u8 0, .int .u8 0, .bool false, .slice none 0 0, .slice none 0 0, .slice none 0 0, .slice none 0 0, .slice none 0 0] 29)) #[.int .i64 0] 32)
  rw [World.size_alloc] at AE
  have HB := Lib.hid (below_alloc (below_alloc (Below.refl w.heap.size w) (.cells #[.int .u8 0, .int .u8 0, .int .u8 0, .int .u32 0, .int .u8 0, .int .u8 0, .bool false, .slice none 0 0, .slice none 0 0, .slice none 0 0, .slice none 0 0, .slice none 0 0] 29)) (.cells #[.int .i64 0] 32))
  generalize (w.alloc (.cells #[.int .u8 0, .int .u8 0, .int .u8 0, .int .u32 0, .int .u8 0, .int .u8 0, .bool false, .slice none 0 0, .slice none 0 0, .slice none 0 0, .slice none 0 0, .slice none 0 0] 29)).alloc (.cells #[.int .i64 0] 32) = w1 at *
  have HTL := Lib.hid (Frame.isTab_lt HC.out.c.t)
  have HC1 := Lib.hid (HC.out.below HB.out)
  clear HC
  obtain ⟨z4, hz4⟩ : ∃ z, z = w.heap.size := ⟨_, rfl⟩
  obtain ⟨z5, hz5⟩ : ∃ z, z = w.heap.size + 1 := ⟨_, rfl⟩
  have HZ := Lib.hid (show (z4 ≠ z5 ∧ tb < z4 ∧ tb < z5) ∧ w.heap.size ≤ z4 ∧ w.heap.size ≤ z5 from by have := HTL.out; omega)
  rw [← hz5] at AE
  rw [← hz4] at AZ
  rw [← hz5, ← hz4]
  have HK := Lib.hid (chg_below (chg_refl (fun x => x = tb) w) HB.out)
  clear HB hz4 hz5
  have ec : w1.cell? ⟨b, 0, none⟩ = some (.pointer (some ⟨c, 0, none⟩)) := HC1.out.a.cell 0
  have e5 : w1.cell? ⟨z5, 0, none⟩ = some (.int .i64 0) := AE.out.cell 0
  go_upto_region 4 with (go_at_call 27; (with_reducible refine (DE.out _ HC1.out.c).mono ?_); rintro e w2 ⟨rfl, ht, hk⟩; have HC2 := Lib.hid (HC1.out.chg ht hk); have AZ2 := Lib.hid (at_chg AZ.out hk (by have := HZ.out; omega)); have AE2 := Lib.hid (at_chg AE.out hk (by have := HZ.out; omega)); have HK2 := Lib.hid (chg_then HK.out hk); clear ht hk HC1 AZ AE HK; have AE3 := Lib.hid (at_alloc (o := .cells #[.int .u8 1, .int .u8 2, .int .u8 3, .string zB] 46) AE2.out); have e5' := AE3.out.cell 0; have f5' := AE3.out.free 0; simp only [List.getElem?_toArray, List.getElem?_cons_zero] at e5')
  have HL2 := Lib.hid (show z4 < w2.heap.size ∧ z5 < w2.heap.size from ⟨AZ2.out.lt, AE2.out.lt⟩)
  have AF3 := Lib.hid (at_set_ne (b' := z5) (i := 0) (v := .int .i64 0) (at_new w2 #[.int .u8 1, .int .u8 2, .int .u8 3, .string zB] 46) (by have := HL2.out; omega))
  have AZ3 := Lib.hid (at_set_ne (b' := z5) (i := 0) (v := .int .i64 0) (at_alloc (o := .cells #[.int .u8 1, .int .u8 2, .int .u8 3, .string zB] 46) AZ2.out) HZ.out.1.1)
  replace AE3 := Lib.hid (at_set (i := 0) (v := .int .i64 0) AE3.out)
  have KX3 := Lib.hid (chg_set (b := z5) (i := 0) (v := .int .i64 0) (chg_alloc (o := .cells #[.int .u8 1, .int .u8 2, .int .u8 3, .string zB] 46) (chg_refl (fun x => w.heap.size ≤ x) w2)) HZ.out.2.2)
  have HT2 := Lib.hid HC2.out.c.t
  clear HC2 AZ2 AE2
  generalize ((w2.alloc (.cells #[.int .u8 1, .int .u8 2, .int .u8 3, .string zB] 46)).setCell ⟨z5, 0, none⟩ (.int .i64 0)) = w3 at *
  have HF := Lib.hid (show w2.heap.size ≠ z4 ∧ w2.heap.size ≠ z5 ∧ w.heap.size ≤ w2.heap.size from ⟨by have := HL2.out; omega, by have := HL2.out; omega, HK2.out.size⟩)
  clear HL2
  obtain ⟨zf, hzf⟩ : ∃ z, z = w2.heap.size := ⟨_, rfl⟩
  rw [← hzf] at AF3 HF
  rw [← hzf]
  clear hzf
  have e6 : w3.cell? ⟨z5, 0, none⟩ = some (.int .i64 0) := AE3.out.cell 0
  have e7 : w3.cell? ⟨zf, 3, none⟩ = some (.string zB) := AF3.out.cell 3
  go_upto_region 8 with (fail)
  have HL3 := Lib.hid (show (z4 < w3.heap.size ∧ z5 < w3.heap.size ∧ zf < w3.heap.size) from ⟨AZ3.out.lt, AE3.out.lt, AF3.out.lt⟩)
  have AR := Lib.hid (at_new w3 #[.string zB, .int .i64 0] 89)
  have AZ := Lib.hid (at_alloc (o := .cells #[.string zB, .int .i64 0] 89) AZ3.out)
  have AE := Lib.hid (at_alloc (o := .cells #[.string zB, .int .i64 0] 89) AE3.out)
  have AF := Lib.hid (at_alloc (o := .cells #[.string zB, .int .i64 0] 89) AF3.out)
  have KX := Lib.hid (chg_alloc (o := .cells #[.string zB, .int .i64 0] 89) KX3.out)
  clear AZ3 AE3 AF3 KX3
  generalize (w3.alloc (.cells #[.string zB, .int .i64 0] 89)) = w4 at *
  have HR := Lib.hid (show (z4 ≠ w3.heap.size ∧ z5 ≠ w3.heap.size ∧ zf ≠ w3.heap.size) ∧ w.heap.size ≤ w3.heap.size from by have := HL3.out; have := HZ.out; omega)
  clear HL3
  obtain ⟨zr, hzr⟩ : ∃ z, z = w3.heap.size := ⟨_, rfl⟩
  rw [← hzr] at AR HR
  rw [← hzr]
  clear hzr
  refine start_ (n := 20) (S := fun w' => w'.cell? ⟨zf, 0, none⟩ = some (.int .u8 1) ∧ w'.cell? ⟨zf, 1, none⟩ = some (.int .u8 2) ∧ w'.cell? ⟨zf, 2, none⟩ = some (.int .u8 3)) (ds := [19]) #[false, false, false, false, false, false, false, false, false, false, false, false, false, false, false, false, false, false, false, false] (by kernel_rfl) rfl rfl ⟨AF.out.cell 0, AF.out.cell 1, AF.out.cell 2⟩ (fun hHeld => ?_)
  replace AR := Lib.hid (at_drew AR.out)
  replace AZ := Lib.hid (at_drew AZ.out)
  replace AE := Lib.hid (at_drew AE.out)
  replace AF := Lib.hid (at_drew AF.out)
  replace KX := Lib.hid (chg_drew KX.out)
  generalize w4.drew = w5 at AR AZ AE AF KX hHeld ⊢
  refine pure_ (i := 0) (N := some 29) (v := ?_) (a' := ?_) #[true, false, false, false, false, false, false, false, false, false, false, false, false, false, false, false, false, false, false, false] rfl rfl (by kernel_rfl) (by intro _ _ _ h; exact put12 (d := 29) (by decide) (by decide) h) (Or.inl ⟨by rfl, ?_⟩) ?_ ?_
  rotate_left
  · intro w'
    go_simp
    with_reducible rfl
  rotate_left
  · simp only [Act.put, List.setIfInBounds_toArray, List.set_cons_zero, List.set_cons_succ, i64_w, i32_w]
    rfl
  refine pure_ (i := 2) (N := some 31) (v := ?_) (a' := ?_) #[true, false, true, false, false, false, false, false, false, false, false, false, false, false, false, false, false, false, false, false] rfl rfl (by kernel_rfl) (by intro _ _ _ h; exact put12 (d := 31) (by decide) (by decide) h) (Or.inl ⟨by rfl, ?_⟩) ?_ ?_
  rotate_left
  · intro w'
    go_simp
    with_reducible rfl
  rotate_left
  · simp only [Act.put, List.setIfInBounds_toArray, List.set_cons_zero, List.set_cons_succ, i64_w, i32_w]
    rfl
  refine pure_ (i := 4) (N := some 33) (v := ?_) (a' := ?_) #[true, false, true, false, true, false, false, false, false, false, false, false, false, false, false, false, false, false, false, false] rfl rfl (by kernel_rfl) (by intro _ _ _ h; exact put12 (d := 33) (by decide) (by decide) h) (Or.inl ⟨by rfl, ?_⟩) ?_ ?_
  rotate_left
  · intro w'
    go_simp
    with_reducible rfl
  rotate_left
  · simp only [Act.put, List.setIfInBounds_toArray, List.set_cons_zero, List.set_cons_succ, i64_w, i32_w]
    rfl
  refine pure_ (i := 6) (N := some 35) (v := ?_) (a' := ?_) #[true, false, true, false, true, false, true, false, false, false, false, false, false, false, false, false, false, false, false, false] rfl rfl (by kernel_rfl) (by intro _ _ _ h; exact put12 (d := 35) (by decide) (by decide) h) (Or.inl ⟨by rfl, ?_⟩) ?_ ?_
  rotate_left
  · intro w'
    go_simp
    with_reducible rfl
  rotate_left
  · simp only [Act.put, List.setIfInBounds_toArray, List.set_cons_zero, List.set_cons_succ, i64_w, i32_w]
    rfl
  refine pure_ (i := 9) (N := some 38) (v := ?_) (a' := ?_) #[true, false, true, false, true, false, true, false, false, true, false, false, false, false, false, false, false, false, false, false] rfl rfl (by kernel_rfl) (by intro _ _ _ h; exact put12 (d := 38) (by decide) (by decide) h) (Or.inl ⟨by rfl, ?_⟩) ?_ ?_
  rotate_left
  · intro w'
    go_simp
    with_reducible rfl
  rotate_left
  · simp only [Act.put, List.setIfInBounds_toArray, List.set_cons_zero, List.set_cons_succ, i64_w, i32_w]
    rfl
  refine pure_ (i := 12) (N := some 41) (v := ?_) (a' := ?_) #[true, false, true, false, true, false, true, false, false, true, false, false, true, false, false, false, false, false, false, false] rfl rfl (by kernel_rfl) (by intro _ _ _ h; exact put12 (d := 41) (by decide) (by decide) h) (Or.inl ⟨by rfl, ?_⟩) ?_ ?_
  rotate_left
  · intro w'
    go_simp
    with_reducible rfl
  rotate_left
  · simp only [Act.put, List.setIfInBounds_toArray, List.set_cons_zero, List.set_cons_succ, i64_w, i32_w]
    rfl
  refine pure_ (i := 15) (N := some 44) (v := ?_) (a' := ?_) #[true, false, true, false, true, false, true, false, false, true, false, false, true, false, false, true, false, false, false, false] rfl rfl (by kernel_rfl) (by intro _ _ _ h; exact put12 (d := 44) (by decide) (by decide) h) (Or.inl ⟨by rfl, ?_⟩) ?_ ?_
  rotate_left
  · intro w'
    go_simp
    with_reducible rfl
  rotate_left
  · simp only [Act.put, List.setIfInBounds_toArray, List.set_cons_zero, List.set_cons_succ, i64_w, i32_w]
    rfl
  refine take_ (i := 1) (N := some 30) (v := ?_) (a' := ?_) #[true, true, true, false, true, false, true, false, false, true, false, false, true, false, false, true, false, false, false, false] rfl rfl (by kernel_rfl) (by intro _ _ _ h; exact put12 (d := 30) (by decide) (by decide) h) (Or.inl ⟨by rfl, ?_⟩) hHeld ?_ ?_
  rotate_left
  · rintro w' ⟨s0, s1, s2⟩
    go_simp
    with_reducible rfl
  rotate_left
  · simp only [Act.put, List.setIfInBounds_toArray, List.set_cons_zero, List.set_cons_succ, i64_w, i32_w]
    rfl
  refine take_ (i := 3) (N := some 32) (v := ?_) (a' := ?_) #[true, true, true, true, true, false, true, false, false, true, false, false, true, false, false, true, false, false, false, false] rfl rfl (by kernel_rfl) (by intro _ _ _ h; exact put12 (d := 32) (by decide) (by decide) h) (Or.inl ⟨by rfl, ?_⟩) hHeld ?_ ?_
  rotate_left
  · rintro w' ⟨s0, s1, s2⟩
    go_simp
    with_reducible rfl
  rotate_left
  · simp only [Act.put, List.setIfInBounds_toArray, List.set_cons_zero, List.set_cons_succ, i64_w, i32_w]
    rfl
  refine take_ (i := 5) (N := some 34) (v := ?_) (a' := ?_) #[true, true, true, true, true, true, true, false, false, true, false, false, true, false, false, true, false, false, false, false] rfl rfl (by kernel_rfl) (by intro _ _ _ h; exact put12 (d := 34) (by decide) (by decide) h) (Or.inl ⟨by rfl, ?_⟩) hHeld ?_ ?_
  rotate_left
  · rintro w' ⟨s0, s1, s2⟩
    go_simp
    with_reducible rfl
  rotate_left
  · simp only [Act.put, List.setIfInBounds_toArray, List.set_cons_zero, List.set_cons_succ, i64_w, i32_w]
    rfl
  refine one_ (i := 7) (N := some 36) #[true, true, true, true, true, true, true, true, false, true, false, false, true, false, false, true, false, false, false, false] rfl rfl (by kernel_rfl) (by decide) (fun K hK => ?_)
  refine goes_ Try.func29 (by kernel_rfl) rfl #[.pointer (some ⟨zr, 0, none⟩), .int .u64 0, .int .u64 4294967295] (by rfl) rfl rfl (by simp only [List.map_toArray, List.map_cons, List.map_nil]; rfl) ?_
  with_reducible refine (rnum_is zr zB 0 0 4294967295 0 1 numZ.1 (by decide) _ AR.out).mono ?_
  rintro e w11 ⟨rfl, ha, hk⟩
  refine ⟨_, rfl, ?_⟩
  have AR11 := Lib.hid ha
  have AZ11 := Lib.hid (at_chg AZ.out hk HR.out.1.1)
  have AE11 := Lib.hid (at_chg AE.out hk HR.out.1.2.1)
  have AF11 := Lib.hid (at_chg AF.out hk HR.out.1.2.2)
  have KX11 := Lib.hid (chg_then KX.out (chg_le hk (fun x e => by rw [e]; exact HR.out.2)))
  clear ha hk AR AZ AE AF KX
  refine hK.out _ _ ⟨AF11.out.cell 0, AF11.out.cell 1, AF11.out.cell 2⟩ (fun hHeld => ?_)
  clear hK K
  refine norm_ (a' := ?_) ?_ ?_
  rotate_left
  · show Act.put _ (some 36) _ = _
    simp only [Act.put, List.setIfInBounds_toArray, List.set_cons_zero, List.set_cons_succ, i64_w, i32_w]
    rfl
  refine pure_ (i := 8) (N := some 37) (v := ?_) (a' := ?_) #[true, true, true, true, true, true, true, true, true, true, false, false, true, false, false, true, false, false, false, false] rfl rfl (by kernel_rfl) (by intro _ _ _ h; exact put12 (d := 37) (by decide) (by decide) h) (Or.inl ⟨by rfl, ?_⟩) ?_ ?_
  rotate_left
  · intro w'
    go_simp
    with_reducible rfl
  rotate_left
  · simp only [Act.put, List.setIfInBounds_toArray, List.set_cons_zero, List.set_cons_succ, i64_w, i32_w]
    rfl
  refine one_ (i := 10) (N := some 39) #[true, true, true, true, true, true, true, true, true, true, true, false, true, false, false, true, false, false, false, false] rfl rfl (by kernel_rfl) (by decide) (fun K hK => ?_)
  refine goes_ Try.func29 (by kernel_rfl) rfl #[.pointer (some ⟨zr, 0, none⟩), .int .u64 0, .int .u64 63] (by rfl) rfl rfl (by simp only [List.map_toArray, List.map_cons, List.map_nil]; rfl) ?_
  with_reducible refine (rnum_is zr zB 1 0 63 0 2 numZ.2.1 (by decide) _ AR11.out).mono ?_
  rintro e w12 ⟨rfl, ha, hk⟩
  refine ⟨_, rfl, ?_⟩
  have AR12 := Lib.hid ha
  have AZ12 := Lib.hid (at_chg AZ11.out hk HR.out.1.1)
  have AE12 := Lib.hid (at_chg AE11.out hk HR.out.1.2.1)
  have AF12 := Lib.hid (at_chg AF11.out hk HR.out.1.2.2)
  have KX12 := Lib.hid (chg_then KX11.out (chg_le hk (fun x e => by rw [e]; exact HR.out.2)))
  clear ha hk AR11 AZ11 AE11 AF11 KX11
  refine hK.out _ _ ⟨AF12.out.cell 0, AF12.out.cell 1, AF12.out.cell 2⟩ (fun hHeld => ?_)
  clear hK K
  refine norm_ (a' := ?_) ?_ ?_
  rotate_left
  · show Act.put _ (some 39) _ = _
    simp only [Act.put, List.setIfInBounds_toArray, List.set_cons_zero, List.set_cons_succ, i64_w, i32_w]
    rfl
  refine pure_ (i := 11) (N := some 40) (v := ?_) (a' := ?_) #[true, true, true, true, true, true, true, true, true, true, true, true, true, false, false, true, false, false, false, false] rfl rfl (by kernel_rfl) (by intro _ _ _ h; exact put12 (d := 40) (by decide) (by decide) h) (Or.inl ⟨by rfl, ?_⟩) ?_ ?_
  rotate_left
  · intro w'
    go_simp
    with_reducible rfl
  rotate_left
  · simp only [Act.put, List.setIfInBounds_toArray, List.set_cons_zero, List.set_cons_succ, i64_w, i32_w]
    rfl
  refine one_ (i := 13) (N := some 42) #[true, true, true, true, true, true, true, true, true, true, true, true, true, true, false, true, false, false, false, false] rfl rfl (by kernel_rfl) (by decide) (fun K hK => ?_)
  refine goes_ Try.func29 (by kernel_rfl) rfl #[.pointer (some ⟨zr, 0, none⟩), .int .u64 0, .int .u64 63] (by rfl) rfl rfl (by simp only [List.map_toArray, List.map_cons, List.map_nil]; rfl) ?_
  with_reducible refine (rnum_is zr zB 2 0 63 0 3 numZ.2.2.1 (by decide) _ AR12.out).mono ?_
  rintro e w13 ⟨rfl, ha, hk⟩
  refine ⟨_, rfl, ?_⟩
  have AR13 := Lib.hid ha
  have AZ13 := Lib.hid (at_chg AZ12.out hk HR.out.1.1)
  have AE13 := Lib.hid (at_chg AE12.out hk HR.out.1.2.1)
  have AF13 := Lib.hid (at_chg AF12.out hk HR.out.1.2.2)
  have KX13 := Lib.hid (chg_then KX12.out (chg_le hk (fun x e => by rw [e]; exact HR.out.2)))
  clear ha hk AR12 AZ12 AE12 AF12 KX12
  refine hK.out _ _ ⟨AF13.out.cell 0, AF13.out.cell 1, AF13.out.cell 2⟩ (fun hHeld => ?_)
  clear hK K
  refine norm_ (a' := ?_) ?_ ?_
  rotate_left
  · show Act.put _ (some 42) _ = _
    simp only [Act.put, List.setIfInBounds_toArray, List.set_cons_zero, List.set_cons_succ, i64_w, i32_w]
    rfl
  refine pure_ (i := 14) (N := some 43) (v := ?_) (a' := ?_) #[true, true, true, true, true, true, true, true, true, true, true, true, true, true, true, true, false, false, false, false] rfl rfl (by kernel_rfl) (by intro _ _ _ h; exact put12 (d := 43) (by decide) (by decide) h) (Or.inl ⟨by rfl, ?_⟩) ?_ ?_
  rotate_left
  · intro w'
    go_simp
    with_reducible rfl
  rotate_left
  · simp only [Act.put, List.setIfInBounds_toArray, List.set_cons_zero, List.set_cons_succ, i64_w, i32_w]
    rfl
  refine one_ (i := 16) (N := some 45) #[true, true, true, true, true, true, true, true, true, true, true, true, true, true, true, true, true, false, false, false] rfl rfl (by kernel_rfl) (by decide) (fun K hK => ?_)
  refine goes_ Try.func29 (by kernel_rfl) rfl #[.pointer (some ⟨zr, 0, none⟩), .int .u64 0, .int .u64 1] (by rfl) rfl rfl (by simp only [List.map_toArray, List.map_cons, List.map_nil]; rfl) ?_
  with_reducible refine (rnum_is zr zB 3 0 1 0 4 numZ.2.2.2.1 (by decide) _ AR13.out).mono ?_
  rintro e w14 ⟨rfl, ha, hk⟩
  refine ⟨_, rfl, ?_⟩
  have AR14 := Lib.hid ha
  have AZ14 := Lib.hid (at_chg AZ13.out hk HR.out.1.1)
  have AE14 := Lib.hid (at_chg AE13.out hk HR.out.1.2.1)
  have AF14 := Lib.hid (at_chg AF13.out hk HR.out.1.2.2)
  have KX14 := Lib.hid (chg_then KX13.out (chg_le hk (fun x e => by rw [e]; exact HR.out.2)))
  clear ha hk AR13 AZ13 AE13 AF13 KX13
  have ee0 : w14.cell? ⟨z4, 0, none⟩ = some (.int .u8 0) := AZ14.out.cell 0
  have ee1 : w14.cell? ⟨z4, 1, none⟩ = some (.int .u8 0) := AZ14.out.cell 1
  have ee2 : w14.cell? ⟨z4, 2, none⟩ = some (.int .u8 0) := AZ14.out.cell 2
  have ee3 : w14.cell? ⟨z4, 3, none⟩ = some (.int .u32 0) := AZ14.out.cell 3
  have ee4 : w14.cell? ⟨z4, 4, none⟩ = some (.int .u8 0) := AZ14.out.cell 4
  have ee5 : w14.cell? ⟨z4, 5, none⟩ = some (.int .u8 0) := AZ14.out.cell 5
  have ee6 : w14.cell? ⟨z4, 6, none⟩ = some (.bool false) := AZ14.out.cell 6
  have ee7 : w14.cell? ⟨z4, 7, none⟩ = some (.slice none 0 0) := AZ14.out.cell 7
  have ee8 : w14.cell? ⟨z4, 8, none⟩ = some (.slice none 0 0) := AZ14.out.cell 8
  have ee9 : w14.cell? ⟨z4, 9, none⟩ = some (.slice none 0 0) := AZ14.out.cell 9
  have ee10 : w14.cell? ⟨z4, 10, none⟩ = some (.slice none 0 0) := AZ14.out.cell 10
  have ee11 : w14.cell? ⟨z4, 11, none⟩ = some (.slice none 0 0) := AZ14.out.cell 11
  have ff0 : w14.frozen? ⟨z4, 0, none⟩ = false := AZ14.out.free 0
  have ff1 : w14.frozen? ⟨z4, 1, none⟩ = false := AZ14.out.free 1
  have ff2 : w14.frozen? ⟨z4, 2, none⟩ = false := AZ14.out.free 2
  have ff3 : w14.frozen? ⟨z4, 3, none⟩ = false := AZ14.out.free 3
  have ff4 : w14.frozen? ⟨z4, 4, none⟩ = false := AZ14.out.free 4
  have ff5 : w14.frozen? ⟨z4, 5, none⟩ = false := AZ14.out.free 5
  have ff6 : w14.frozen? ⟨z4, 6, none⟩ = false := AZ14.out.free 6
  have ff7 : w14.frozen? ⟨z4, 7, none⟩ = false := AZ14.out.free 7
  have ff8 : w14.frozen? ⟨z4, 8, none⟩ = false := AZ14.out.free 8
  have ff9 : w14.frozen? ⟨z4, 9, none⟩ = false := AZ14.out.free 9
  have ff10 : w14.frozen? ⟨z4, 10, none⟩ = false := AZ14.out.free 10
  have ff11 : w14.frozen? ⟨z4, 11, none⟩ = false := AZ14.out.free 11
  refine hK.out _ _ ⟨AF14.out.cell 0, AF14.out.cell 1, AF14.out.cell 2⟩ (fun hHeld => ?_)
  clear hK K
  refine norm_ (a' := ?_) ?_ ?_
  rotate_left
  · show Act.put _ (some 45) _ = _
    simp only [Act.put, List.setIfInBounds_toArray, List.set_cons_zero, List.set_cons_succ, i64_w, i32_w]
    rfl
  refine pure_ (i := 17) (N := some 46) (v := ?_) (a' := ?_) #[true, true, true, true, true, true, true, true, true, true, true, true, true, true, true, true, true, true, false, false] rfl rfl (by kernel_rfl) (by intro _ _ _ h; exact put12 (d := 46) (by decide) (by decide) h) (Or.inl ⟨by rfl, ?_⟩) ?_ ?_
  rotate_left
  · intro w'
    go_simp
    with_reducible rfl
  rotate_left
  · simp only [Act.put, List.setIfInBounds_toArray, List.set_cons_zero, List.set_cons_succ, i64_w, i32_w]
    rfl
  refine pure_ (i := 18) (N := some 47) (v := ?_) (a' := ?_) #[true, true, true, true, true, true, true, true, true, true, true, true, true, true, true, true, true, true, true, false] rfl rfl (by kernel_rfl) (by intro _ _ _ h; exact put12 (d := 47) (by decide) (by decide) h) (Or.inl ⟨by rfl, ?_⟩) ?_ ?_
  rotate_left
  · intro w'
    go_simp
    with_reducible rfl
  rotate_left
  · simp only [Act.put, List.setIfInBounds_toArray, List.set_cons_zero, List.set_cons_succ, i64_w, i32_w]
    rfl
  refine last_ (i := 19) (N := none) #[true, true, true, true, true, true, true, true, true, true, true, true, true, true, true, true, true, true, true, true] rfl rfl (by kernel_rfl) (by decide) (fun K hK => ?_)
  refine skip_ (w1 := ?_) (by rfl) rfl ?_ ?_
  rotate_left
  · go_simp
    rfl
  refine hK.out _ _ ?_
  clear hK K
  refine done_ (by kernel_rfl) ?_
  have AZF := Lib.hid (show At (((((((((((((w14.setCell ⟨z4, 0, none⟩ (.int .u8 1)).setCell ⟨z4, 1, none⟩ (.int .u8 2)).setCell ⟨z4, 2, none⟩ (.int .u8 3)).setCell ⟨z4, 3, none⟩ (.int .u32 (IntKind.u32.wrap 0))).setCell ⟨z4, 4, none⟩ (.int .u8 (IntKind.u8.wrap 0))).setCell ⟨z4, 5, none⟩ (.int .u8 (IntKind.u8.wrap 0))).setCell ⟨z4, 6, none⟩ (.bool false)).setCell ⟨z4, 7, none⟩ (.slice none 0 0)).setCell ⟨z4, 8, none⟩ (.slice none 0 0)).setCell ⟨z4, 9, none⟩ (.slice none 0 0)).setCell ⟨z4, 10, none⟩ (.slice none 0 0)).setCell ⟨z4, 11, none⟩ (.slice none 0 0))) z4 #[.int .u8 1, .int .u8 2, .int .u8 3, .int .u32 0, .int .u8 0, .int .u8 0, .bool false, .slice none 0 0, .slice none 0 0, .slice none 0 0, .slice none 0 0, .slice none 0 0] 29 from at_set12 AZ14.out)
  have AE := Lib.hid (at_set12_ne (v0 := .int .u8 1) (v1 := .int .u8 2) (v2 := .int .u8 3) (v3 := .int .u32 (IntKind.u32.wrap 0)) (v4 := .int .u8 (IntKind.u8.wrap 0)) (v5 := .int .u8 (IntKind.u8.wrap 0)) (v6 := .bool false) (v7 := .slice none 0 0) (v8 := .slice none 0 0) (v9 := .slice none 0 0) (v10 := .slice none 0 0) (v11 := .slice none 0 0) AE14.out (fun e => HZ.out.1.1 e.symm))
  have AR := Lib.hid (at_set12_ne (v0 := .int .u8 1) (v1 := .int .u8 2) (v2 := .int .u8 3) (v3 := .int .u32 (IntKind.u32.wrap 0)) (v4 := .int .u8 (IntKind.u8.wrap 0)) (v5 := .int .u8 (IntKind.u8.wrap 0)) (v6 := .bool false) (v7 := .slice none 0 0) (v8 := .slice none 0 0) (v9 := .slice none 0 0) (v10 := .slice none 0 0) (v11 := .slice none 0 0) AR14.out (fun e => HR.out.1.1 e.symm))
  have KX := Lib.hid (show Chg (fun x => w.heap.size ≤ x) w2 (((((((((((((w14.setCell ⟨z4, 0, none⟩ (.int .u8 1)).setCell ⟨z4, 1, none⟩ (.int .u8 2)).setCell ⟨z4, 2, none⟩ (.int .u8 3)).setCell ⟨z4, 3, none⟩ (.int .u32 (IntKind.u32.wrap 0))).setCell ⟨z4, 4, none⟩ (.int .u8 (IntKind.u8.wrap 0))).setCell ⟨z4, 5, none⟩ (.int .u8 (IntKind.u8.wrap 0))).setCell ⟨z4, 6, none⟩ (.bool false)).setCell ⟨z4, 7, none⟩ (.slice none 0 0)).setCell ⟨z4, 8, none⟩ (.slice none 0 0)).setCell ⟨z4, 9, none⟩ (.slice none 0 0)).setCell ⟨z4, 10, none⟩ (.slice none 0 0)).setCell ⟨z4, 11, none⟩ (.slice none 0 0))) from chg_set12 KX14.out HZ.out.2.1)
  clear AZ14 AE14 AF14 AR14 KX14 ee0 ff0 ee1 ff1 ee2 ff2 ee3 ff3 ee4 ff4 ee5 ff5 ee6 ff6 ee7 ff7 ee8 ff8 ee9 ff9 ee10 ff10 ee11 ff11
  generalize ((((((((((((w14.setCell ⟨z4, 0, none⟩ (.int .u8 1)).setCell ⟨z4, 1, none⟩ (.int .u8 2)).setCell ⟨z4, 2, none⟩ (.int .u8 3)).setCell ⟨z4, 3, none⟩ (.int .u32 (IntKind.u32.wrap 0))).setCell ⟨z4, 4, none⟩ (.int .u8 (IntKind.u8.wrap 0))).setCell ⟨z4, 5, none⟩ (.int .u8 (IntKind.u8.wrap 0))).setCell ⟨z4, 6, none⟩ (.bool false)).setCell ⟨z4, 7, none⟩ (.slice none 0 0)).setCell ⟨z4, 8, none⟩ (.slice none 0 0)).setCell ⟨z4, 9, none⟩ (.slice none 0 0)).setCell ⟨z4, 10, none⟩ (.slice none 0 0)).setCell ⟨z4, 11, none⟩ (.slice none 0 0)) = w15 at *
  go_upto_region 10 with (go_at_call 30; (with_reducible refine (list0_72 zr zB 4 5 _ numZ.2.2.2.2.1 (by decide) _ AR.out).mono ?_); rintro e w16 ⟨rfl, ha, hk⟩; have AR1 := Lib.hid ha; have AZ1 := Lib.hid (at_chg AZF.out hk HR.out.1.1); have AE1 := Lib.hid (at_chg AE.out hk HR.out.1.2.1); have KX1 := Lib.hid (chg_then KX.out (chg_le hk (fun x e => by rw [e]; exact HR.out.2))); clear ha hk AR AZF AE KX; have eg : w16.cell? ⟨z4, 7, none⟩ = some (.slice none 0 0) := AZ1.out.cell 7; have fg : w16.frozen? ⟨z4, 7, none⟩ = false := AZ1.out.free 7)
  have AZ := Lib.hid (show At (w16.setCell ⟨z4, 7, none⟩ (.slice none 0 0)) z4 #[.int .u8 1, .int .u8 2, .int .u8 3, .int .u32 0, .int .u8 0, .int .u8 0, .bool false, .slice none 0 0, .slice none 0 0, .slice none 0 0, .slice none 0 0, .slice none 0 0] 29 from at_set' AZ1.out rfl)
  have AE := Lib.hid (at_set_ne (b' := z4) (i := 7) (v := .slice none 0 0) AE1.out (fun e => HZ.out.1.1 e.symm))
  have AR := Lib.hid (at_set_ne (b' := z4) (i := 7) (v := .slice none 0 0) AR1.out (fun e => HR.out.1.1 e.symm))
  have KX := Lib.hid (chg_set (b := z4) (i := 7) (v := .slice none 0 0) KX1.out HZ.out.2.1)
  clear AZ1 AE1 AR1 KX1 eg fg
  generalize w16.setCell ⟨z4, 7, none⟩ (.slice none 0 0) = v16 at *
  go_upto_region 11 with (go_at_call 32; (with_reducible refine (list0_S zr zB 5 6 _ numZ.2.2.2.2.2.1 (by decide) _ AR.out).mono ?_); rintro e w17 ⟨rfl, ha, hk⟩; have AR1 := Lib.hid ha; have AZ1 := Lib.hid (at_chg AZ.out hk HR.out.1.1); have AE1 := Lib.hid (at_chg AE.out hk HR.out.1.2.1); have KX1 := Lib.hid (chg_then KX.out (chg_le hk (fun x e => by rw [e]; exact HR.out.2))); clear ha hk AR AZ AE KX; have eg : w17.cell? ⟨z4, 8, none⟩ = some (.slice none 0 0) := AZ1.out.cell 8; have fg : w17.frozen? ⟨z4, 8, none⟩ = false := AZ1.out.free 8)
  have AZ := Lib.hid (show At (w17.setCell ⟨z4, 8, none⟩ (.slice none 0 0)) z4 #[.int .u8 1, .int .u8 2, .int .u8 3, .int .u32 0, .int .u8 0, .int .u8 0, .bool false, .slice none 0 0, .slice none 0 0, .slice none 0 0, .slice none 0 0, .slice none 0 0] 29 from at_set' AZ1.out rfl)
  have AE := Lib.hid (at_set_ne (b' := z4) (i := 8) (v := .slice none 0 0) AE1.out (fun e => HZ.out.1.1 e.symm))
  have AR := Lib.hid (at_set_ne (b' := z4) (i := 8) (v := .slice none 0 0) AR1.out (fun e => HR.out.1.1 e.symm))
  have KX := Lib.hid (chg_set (b := z4) (i := 8) (v := .slice none 0 0) KX1.out HZ.out.2.1)
  clear AZ1 AE1 AR1 KX1 eg fg
  generalize w17.setCell ⟨z4, 8, none⟩ (.slice none 0 0) = v17 at *
  go_upto_region 12 with (go_at_call 34; (with_reducible refine (list0_54 zr zB 6 7 _ numZ.2.2.2.2.2.2.1 (by decide) _ AR.out).mono ?_); rintro e w18 ⟨rfl, ha, hk⟩; have AR1 := Lib.hid ha; have AZ1 := Lib.hid (at_chg AZ.out hk HR.out.1.1); have AE1 := Lib.hid (at_chg AE.out hk HR.out.1.2.1); have KX1 := Lib.hid (chg_then KX.out (chg_le hk (fun x e => by rw [e]; exact HR.out.2))); clear ha hk AR AZ AE KX; have eg : w18.cell? ⟨z4, 9, none⟩ = some (.slice none 0 0) := AZ1.out.cell 9; have fg : w18.frozen? ⟨z4, 9, none⟩ = false := AZ1.out.free 9)
  have AZ := Lib.hid (show At (w18.setCell ⟨z4, 9, none⟩ (.slice none 0 0)) z4 #[.int .u8 1, .int .u8 2, .int .u8 3, .int .u32 0, .int .u8 0, .int .u8 0, .bool false, .slice none 0 0, .slice none 0 0, .slice none 0 0, .slice none 0 0, .slice none 0 0] 29 from at_set' AZ1.out rfl)
  have AE := Lib.hid (at_set_ne (b' := z4) (i := 9) (v := .slice none 0 0) AE1.out (fun e => HZ.out.1.1 e.symm))
  have AR := Lib.hid (at_set_ne (b' := z4) (i := 9) (v := .slice none 0 0) AR1.out (fun e => HR.out.1.1 e.symm))
  have KX := Lib.hid (chg_set (b := z4) (i := 9) (v := .slice none 0 0) KX1.out HZ.out.2.1)
  clear AZ1 AE1 AR1 KX1 eg fg
  generalize w18.setCell ⟨z4, 9, none⟩ (.slice none 0 0) = v18 at *
  go_upto_region 13 with (go_at_call 36; (with_reducible refine (list0_56 zr zB 7 8 _ numZ.2.2.2.2.2.2.2.1 (by decide) _ AR.out).mono ?_); rintro e w19 ⟨rfl, ha, hk⟩; have AR1 := Lib.hid ha; have AZ1 := Lib.hid (at_chg AZ.out hk HR.out.1.1); have AE1 := Lib.hid (at_chg AE.out hk HR.out.1.2.1); have KX1 := Lib.hid (chg_then KX.out (chg_le hk (fun x e => by rw [e]; exact HR.out.2))); clear ha hk AR AZ AE KX; have eg : w19.cell? ⟨z4, 10, none⟩ = some (.slice none 0 0) := AZ1.out.cell 10; have fg : w19.frozen? ⟨z4, 10, none⟩ = false := AZ1.out.free 10)
  have AZ := Lib.hid (show At (w19.setCell ⟨z4, 10, none⟩ (.slice none 0 0)) z4 #[.int .u8 1, .int .u8 2, .int .u8 3, .int .u32 0, .int .u8 0, .int .u8 0, .bool false, .slice none 0 0, .slice none 0 0, .slice none 0 0, .slice none 0 0, .slice none 0 0] 29 from at_set' AZ1.out rfl)
  have AE := Lib.hid (at_set_ne (b' := z4) (i := 10) (v := .slice none 0 0) AE1.out (fun e => HZ.out.1.1 e.symm))
  have AR := Lib.hid (at_set_ne (b' := z4) (i := 10) (v := .slice none 0 0) AR1.out (fun e => HR.out.1.1 e.symm))
  have KX := Lib.hid (chg_set (b := z4) (i := 10) (v := .slice none 0 0) KX1.out HZ.out.2.1)
  clear AZ1 AE1 AR1 KX1 eg fg
  generalize w19.setCell ⟨z4, 10, none⟩ (.slice none 0 0) = v19 at *
  go_upto_region 14 with (go_at_call 38; (with_reducible refine (list0_D zr zB 8 9 _ numZ.2.2.2.2.2.2.2.2 (by decide) _ AR.out).mono ?_); rintro e w20 ⟨rfl, ha, hk⟩; have AR1 := Lib.hid ha; have AZ1 := Lib.hid (at_chg AZ.out hk HR.out.1.1); have AE1 := Lib.hid (at_chg AE.out hk HR.out.1.2.1); have KX1 := Lib.hid (chg_then KX.out (chg_le hk (fun x e => by rw [e]; exact HR.out.2))); clear ha hk AR AZ AE KX; have eg : w20.cell? ⟨z4, 11, none⟩ = some (.slice none 0 0) := AZ1.out.cell 11; have fg : w20.frozen? ⟨z4, 11, none⟩ = false := AZ1.out.free 11)
  have AZ := Lib.hid (show At (w20.setCell ⟨z4, 11, none⟩ (.slice none 0 0)) z4 #[.int .u8 1, .int .u8 2, .int .u8 3, .int .u32 0, .int .u8 0, .int .u8 0, .bool false, .slice none 0 0, .slice none 0 0, .slice none 0 0, .slice none 0 0, .slice none 0 0] 29 from at_set' AZ1.out rfl)
  have AE := Lib.hid (at_set_ne (b' := z4) (i := 11) (v := .slice none 0 0) AE1.out (fun e => HZ.out.1.1 e.symm))
  have AR := Lib.hid (at_set_ne (b' := z4) (i := 11) (v := .slice none 0 0) AR1.out (fun e => HR.out.1.1 e.symm))
  have KX := Lib.hid (chg_set (b := z4) (i := 11) (v := .slice none 0 0) KX1.out HZ.out.2.1)
  clear AZ1 AE1 AR1 KX1 eg fg
  generalize w20.setCell ⟨z4, 11, none⟩ (.slice none 0 0) = v20 at *
  refine start_ (n := 10) (S := fun w' => w'.cell? ⟨zr, 0, none⟩ = some (.string zB) ∧ w'.cell? ⟨zr, 1, none⟩ = some (.int .i64 9)) (ds := []) #[false, false, false, false, false, false, false, false, false, false] (by kernel_rfl) rfl rfl ⟨AR.out.cell 0, AR.out.cell 1⟩ (fun hHeld => ?_)
  replace AR := Lib.hid (at_drew AR.out)
  replace AZ := Lib.hid (at_drew AZ.out)
  replace AE := Lib.hid (at_drew AE.out)
  replace KX := Lib.hid (chg_drew KX.out)
  generalize v20.drew = v21 at AR AZ AE KX hHeld ⊢
  refine pure_ (i := 0) (N := some 73) (v := ?_) (a' := ?_) #[true, false, false, false, false, false, false, false, false, false] rfl rfl (by kernel_rfl) (by intro _ _ _ h; exact put12 (d := 73) (by decide) (by decide) h) (Or.inl ⟨by rfl, ?_⟩) ?_ ?_
  rotate_left
  · intro w'
    go_simp
    with_reducible rfl
  rotate_left
  · simp only [Act.put, List.setIfInBounds_toArray, List.set_cons_zero, List.set_cons_succ, i64_w, i32_w]
    rfl
  refine pure_ (i := 1) (N := some 74) (v := ?_) (a' := ?_) #[true, true, false, false, false, false, false, false, false, false] rfl rfl (by kernel_rfl) (by intro _ _ _ h; exact put12 (d := 74) (by decide) (by decide) h) (Or.inl ⟨by rfl, ?_⟩) ?_ ?_
  rotate_left
  · intro w'
    go_simp
    with_reducible rfl
  rotate_left
  · simp only [Act.put, List.setIfInBounds_toArray, List.set_cons_zero, List.set_cons_succ, i64_w, i32_w]
    rfl
  refine pure_ (i := 2) (N := some 75) (v := ?_) (a' := ?_) #[true, true, true, false, false, false, false, false, false, false] rfl rfl (by kernel_rfl) (by intro _ _ _ h; exact put12 (d := 75) (by decide) (by decide) h) (Or.inl ⟨by rfl, ?_⟩) ?_ ?_
  rotate_left
  · intro w'
    go_simp
    with_reducible rfl
  rotate_left
  · simp only [Act.put, List.setIfInBounds_toArray, List.set_cons_zero, List.set_cons_succ, i64_w, i32_w]
    rfl
  refine pure_ (i := 4) (N := some 77) (v := ?_) (a' := ?_) #[true, true, true, false, true, false, false, false, false, false] rfl rfl (by kernel_rfl) (by intro _ _ _ h; exact put12 (d := 77) (by decide) (by decide) h) (Or.inl ⟨by rfl, ?_⟩) ?_ ?_
  rotate_left
  · intro w'
    go_simp
    with_reducible rfl
  rotate_left
  · simp only [Act.put, List.setIfInBounds_toArray, List.set_cons_zero, List.set_cons_succ, i64_w, i32_w]
    rfl
  refine pure_ (i := 5) (N := some 78) (v := ?_) (a' := ?_) #[true, true, true, false, true, true, false, false, false, false] rfl rfl (by kernel_rfl) (by intro _ _ _ h; exact put12 (d := 78) (by decide) (by decide) h) (Or.inl ⟨by rfl, ?_⟩) ?_ ?_
  rotate_left
  · intro w'
    go_simp
    with_reducible rfl
  rotate_left
  · simp only [Act.put, List.setIfInBounds_toArray, List.set_cons_zero, List.set_cons_succ, i64_w, i32_w]
    rfl
  refine pure_ (i := 6) (N := some 79) (v := ?_) (a' := ?_) #[true, true, true, false, true, true, true, false, false, false] rfl rfl (by kernel_rfl) (by intro _ _ _ h; exact put12 (d := 79) (by decide) (by decide) h) (Or.inl ⟨by rfl, ?_⟩) ?_ ?_
  rotate_left
  · intro w'
    go_simp
    with_reducible rfl
  rotate_left
  · simp only [Act.put, List.setIfInBounds_toArray, List.set_cons_zero, List.set_cons_succ, i64_w, i32_w]
    rfl
  refine take_ (i := 3) (N := some 76) (v := ?_) (a' := ?_) #[true, true, true, true, true, true, true, false, false, false] rfl rfl (by kernel_rfl) (by intro _ _ _ h; exact put12 (d := 76) (by decide) (by decide) h) (Or.inl ⟨by rfl, ?_⟩) hHeld ?_ ?_
  rotate_left
  · rintro w' ⟨s0, s1⟩
    go_simp
    with_reducible rfl
  rotate_left
  · simp only [Act.put, List.setIfInBounds_toArray, List.set_cons_zero, List.set_cons_succ, i64_w, i32_w]
    rfl
  refine take_ (i := 7) (N := some 80) (v := ?_) (a' := ?_) #[true, true, true, true, true, true, true, true, false, false] rfl rfl (by kernel_rfl) (by intro _ _ _ h; exact put12 (d := 80) (by decide) (by decide) h) (Or.inl ⟨by rfl, ?_⟩) hHeld ?_ ?_
  rotate_left
  · rintro w' ⟨s0, s1⟩
    go_simp
    with_reducible rfl
  rotate_left
  · simp only [Act.put, List.setIfInBounds_toArray, List.set_cons_zero, List.set_cons_succ, i64_w, i32_w]
    rfl
  refine pure_ (i := 8) (N := some 81) (v := ?_) (a' := ?_) #[true, true, true, true, true, true, true, true, true, false] rfl rfl (by kernel_rfl) (by intro _ _ _ h; exact put12 (d := 81) (by decide) (by decide) h) (Or.inl ⟨by rfl, ?_⟩) ?_ ?_
  rotate_left
  · intro w'
    go_simp
    with_reducible rfl
  rotate_left
  · simp only [Act.put, List.setIfInBounds_toArray, List.set_cons_zero, List.set_cons_succ, i64_w, i32_w]
    rfl
  refine pure_ (i := 9) (N := some 82) (v := ?_) (a' := ?_) #[true, true, true, true, true, true, true, true, true, true] rfl rfl (by kernel_rfl) (by intro _ _ _ h; exact put12 (d := 82) (by decide) (by decide) h) (Or.inl ⟨by rfl, ?_⟩) ?_ ?_
  rotate_left
  · intro w'
    go_simp
    with_reducible rfl
  rotate_left
  · simp only [Act.put, List.setIfInBounds_toArray, List.set_cons_zero, List.set_cons_succ, i64_w, i32_w]
    rfl
  refine done_ (by kernel_rfl) ?_
  have eh0 : v21.cell? ⟨z4, 0, none⟩ = some (.int .u8 1) := AZ.out.cell 0
  have fh0 : v21.frozen? ⟨z4, 0, none⟩ = false := AZ.out.free 0
  have eh1 : v21.cell? ⟨z4, 1, none⟩ = some (.int .u8 2) := AZ.out.cell 1
  have fh1 : v21.frozen? ⟨z4, 1, none⟩ = false := AZ.out.free 1
  have eh2 : v21.cell? ⟨z4, 2, none⟩ = some (.int .u8 3) := AZ.out.cell 2
  have fh2 : v21.frozen? ⟨z4, 2, none⟩ = false := AZ.out.free 2
  have eh3 : v21.cell? ⟨z4, 3, none⟩ = some (.int .u32 0) := AZ.out.cell 3
  have fh3 : v21.frozen? ⟨z4, 3, none⟩ = false := AZ.out.free 3
  have eh4 : v21.cell? ⟨z4, 4, none⟩ = some (.int .u8 0) := AZ.out.cell 4
  have fh4 : v21.frozen? ⟨z4, 4, none⟩ = false := AZ.out.free 4
  have eh5 : v21.cell? ⟨z4, 5, none⟩ = some (.int .u8 0) := AZ.out.cell 5
  have fh5 : v21.frozen? ⟨z4, 5, none⟩ = false := AZ.out.free 5
  have eh6 : v21.cell? ⟨z4, 6, none⟩ = some (.bool false) := AZ.out.cell 6
  have fh6 : v21.frozen? ⟨z4, 6, none⟩ = false := AZ.out.free 6
  have eh7 : v21.cell? ⟨z4, 7, none⟩ = some (.slice none 0 0) := AZ.out.cell 7
  have fh7 : v21.frozen? ⟨z4, 7, none⟩ = false := AZ.out.free 7
  have eh8 : v21.cell? ⟨z4, 8, none⟩ = some (.slice none 0 0) := AZ.out.cell 8
  have fh8 : v21.frozen? ⟨z4, 8, none⟩ = false := AZ.out.free 8
  have eh9 : v21.cell? ⟨z4, 9, none⟩ = some (.slice none 0 0) := AZ.out.cell 9
  have fh9 : v21.frozen? ⟨z4, 9, none⟩ = false := AZ.out.free 9
  have eh10 : v21.cell? ⟨z4, 10, none⟩ = some (.slice none 0 0) := AZ.out.cell 10
  have fh10 : v21.frozen? ⟨z4, 10, none⟩ = false := AZ.out.free 10
  have eh11 : v21.cell? ⟨z4, 11, none⟩ = some (.slice none 0 0) := AZ.out.cell 11
  have fh11 : v21.frozen? ⟨z4, 11, none⟩ = false := AZ.out.free 11
  have ei : v21.cell? ⟨z5, 0, none⟩ = some (.int .i64 0) := AE.out.cell 0
  have fi : v21.frozen? ⟨z5, 0, none⟩ = false := AE.out.free 0
  have hzs : (9 != ((zB.size : Nat) : Int)) = false := rfl
  go_upto_region 16 with (fail)
  apply wp_region
  show wpOps _ _ _ [0, 1, 2] _ _
  refine step_ (i := 0) rfl ?_
  refine value_ (N := some 84) (w1 := ?_) (v := ?_) (by rfl) rfl ?_ ?_
  rotate_left 2
  · go_simp
    constructor
    · rfl
    · rfl
  simp only [Act.put, List.setIfInBounds_toArray, List.set_cons_zero, List.set_cons_succ]
  refine step_ (i := 1) rfl ?_
  refine skip_ (w1 := ?_) (by rfl) rfl ?_ ?_
  rotate_left
  · go_simp
    rfl
  have AZ2 := Lib.hid (show At (((((((((((((v21.setCell ⟨z4, 0, none⟩ (.int .u8 1)).setCell ⟨z4, 1, none⟩ (.int .u8 2)).setCell ⟨z4, 2, none⟩ (.int .u8 3)).setCell ⟨z4, 3, none⟩ (.int .u32 0)).setCell ⟨z4, 4, none⟩ (.int .u8 0)).setCell ⟨z4, 5, none⟩ (.int .u8 0)).setCell ⟨z4, 6, none⟩ (.bool false)).setCell ⟨z4, 7, none⟩ (.slice none 0 0)).setCell ⟨z4, 8, none⟩ (.slice none 0 0)).setCell ⟨z4, 9, none⟩ (.slice none 0 0)).setCell ⟨z4, 10, none⟩ (.slice none 0 0)).setCell ⟨z4, 11, none⟩ (.slice none 0 0))) z4 #[.int .u8 1, .int .u8 2, .int .u8 3, .int .u32 0, .int .u8 0, .int .u8 0, .bool false, .slice none 0 0, .slice none 0 0, .slice none 0 0, .slice none 0 0, .slice none 0 0] 29 from at_set12 AZ.out)
  have AE2 := Lib.hid (show At (((((((((((((v21.setCell ⟨z4, 0, none⟩ (.int .u8 1)).setCell ⟨z4, 1, none⟩ (.int .u8 2)).setCell ⟨z4, 2, none⟩ (.int .u8 3)).setCell ⟨z4, 3, none⟩ (.int .u32 0)).setCell ⟨z4, 4, none⟩ (.int .u8 0)).setCell ⟨z4, 5, none⟩ (.int .u8 0)).setCell ⟨z4, 6, none⟩ (.bool false)).setCell ⟨z4, 7, none⟩ (.slice none 0 0)).setCell ⟨z4, 8, none⟩ (.slice none 0 0)).setCell ⟨z4, 9, none⟩ (.slice none 0 0)).setCell ⟨z4, 10, none⟩ (.slice none 0 0)).setCell ⟨z4, 11, none⟩ (.slice none 0 0))) z5 #[.int .i64 0] 32 from at_set12_ne AE.out (fun e => HZ.out.1.1 e.symm))
  have KX2 := Lib.hid (show Chg (fun x => w.heap.size ≤ x) w2 (((((((((((((v21.setCell ⟨z4, 0, none⟩ (.int .u8 1)).setCell ⟨z4, 1, none⟩ (.int .u8 2)).setCell ⟨z4, 2, none⟩ (.int .u8 3)).setCell ⟨z4, 3, none⟩ (.int .u32 0)).setCell ⟨z4, 4, none⟩ (.int .u8 0)).setCell ⟨z4, 5, none⟩ (.int .u8 0)).setCell ⟨z4, 6, none⟩ (.bool false)).setCell ⟨z4, 7, none⟩ (.slice none 0 0)).setCell ⟨z4, 8, none⟩ (.slice none 0 0)).setCell ⟨z4, 9, none⟩ (.slice none 0 0)).setCell ⟨z4, 10, none⟩ (.slice none 0 0)).setCell ⟨z4, 11, none⟩ (.slice none 0 0))) from chg_set12 KX.out HZ.out.2.1)
  clear AZ AE AR KX hHeld ei fi eh0 fh0 eh1 fh1 eh2 fh2 eh3 fh3 eh4 fh4 eh5 fh5 eh6 fh6 eh7 fh7 eh8 fh8 eh9 fh9 eh10 fh10 eh11 fh11
  generalize ((((((((((((v21.setCell ⟨z4, 0, none⟩ (.int .u8 1)).setCell ⟨z4, 1, none⟩ (.int .u8 2)).setCell ⟨z4, 2, none⟩ (.int .u8 3)).setCell ⟨z4, 3, none⟩ (.int .u32 0)).setCell ⟨z4, 4, none⟩ (.int .u8 0)).setCell ⟨z4, 5, none⟩ (.int .u8 0)).setCell ⟨z4, 6, none⟩ (.bool false)).setCell ⟨z4, 7, none⟩ (.slice none 0 0)).setCell ⟨z4, 8, none⟩ (.slice none 0 0)).setCell ⟨z4, 9, none⟩ (.slice none 0 0)).setCell ⟨z4, 10, none⟩ (.slice none 0 0)).setCell ⟨z4, 11, none⟩ (.slice none 0 0)) = w23 at *
  have ei : w23.cell? ⟨z5, 0, none⟩ = some (.int .i64 0) := AE2.out.cell 0
  have fi : w23.frozen? ⟨z5, 0, none⟩ = false := AE2.out.free 0
  refine step_ (i := 2) rfl ?_
  refine skip_ (w1 := ?_) (by rfl) rfl ?_ ?_
  rotate_left
  · go_simp
    rfl
  have AZ := Lib.hid (at_set_ne (b' := z5) (i := 0) (v := .int .i64 0) AZ2.out HZ.out.1.1)
  have AE := Lib.hid (show At (w23.setCell ⟨z5, 0, none⟩ (.int .i64 0)) z5 #[.int .i64 0] 32 from at_set' AE2.out rfl)
  have KX := Lib.hid (chg_set (b := z5) (i := 0) (v := .int .i64 0) KX2.out HZ.out.2.2)
  clear AZ2 AE2 KX2 ei fi
  generalize w23.setCell ⟨z5, 0, none⟩ (.int .i64 0) = w24 at *
  rw [wpOps]
  go_wp2_with (fail)
  refine leaves_cons (f := 28) (args := #[.pointer (some ⟨z4, 0, none⟩), .pointer (some ⟨z5, 0, none⟩)]) (by simp) (by simp [go_sem]) ?_
  refine (catch_idle z4 z5 _).mono ?_
  rintro e u' w'' ⟨rfl, rfl, rfl⟩
  refine ⟨_, results_un _ z4 z5 _ _ _ _ _ _ _ _ _ _ _ _ _ _ rfl rfl AZ.out AE.out, rfl, ?_, ?_⟩
  · exact is_chgS HT2.out KX.out (by have := HTL.out; omega)
  · exact ⟨KX.out.os.trans HK2.out.os, KX.out.tape.trans HK2.out.tape, KX.out.output.trans HK2.out.output, Nat.le_trans HK2.out.size KX.out.size, fun i hi hn => (KX.out.block i (Nat.lt_of_lt_of_le hi HK2.out.size) (Nat.not_le.2 hi)).trans (HK2.out.block i hi hn)⟩
end Go.Proofs.Ytdjompbhlkgmbaa.Msg
end
section
/- A message's body, part by part (own text). -/
namespace Go.Proofs.Ytdjompbhlkgmbaa.Msg
open Go.RowKit Go.Proofs.Ytdjompbhlkgmbaa.PMsg
open Go.Proofs.Ytdjompbhlkgmbaa.Num (putB putE textB)
set_option linter.unusedVariables false
def recS (x : S54) : ByteArray := if Rec.mayR x.f0 x.f1.f0 x.f1.f2 x.f2 x.f3 x.f4 x.f5 = true then Rec.recB x.f0 x.f1.f0 x.f1.f1 x.f1.f2 x.f2 x.f3 x.f4 x.f5 else ⟨#[]⟩
def newsI (x : S72) : List UInt8 := numsL [x.f0, x.f1.f0, x.f1.f1]
def keysI (x : ByteArray) : List UInt8 := (textB x).data.toList
def recsI (x : S54) : List UInt8 := (recS x).data.toList
def seenI (x : S56) : List UInt8 := (textB x.f0).data.toList ++ numsL [x.f1.f0, x.f1.f1, x.f1.f2, x.f2]
def digsI (x : Int) : List UInt8 := numsL [x / 4294967296, x % 4294967296]
def flagN (b : Bool) : Int := if b = true then 1 else 0
def headL (m : M) : List UInt8 := numsL [m.id, m.tg, m.rg, flagN m.flag, (m.news.length : Int)]
def bodyL (m : M) : List UInt8 :=
  ((((((((headL m ++ m.news.flatMap newsI) ++ numsL [(m.keys.length : Int)]) ++ m.keys.flatMap keysI) ++ numsL [(m.recs.length : Int)]) ++ m.recs.flatMap recsI) ++ numsL [(m.seen.length : Int)]) ++ m.seen.flatMap seenI) ++ numsL [(m.digs.length : Int)]) ++ m.digs.flatMap digsI
def bodyB (m : M) : ByteArray := ⟨(bodyL m).toArray⟩
theorem flat_snoc {α : Type} (f : α → List UInt8) (l : List α) (i : Nat) (h : i < l.length) : (l.take (i + 1)).flatMap f = (l.take i).flatMap f ++ f l[i] := by
  rw [List.take_succ_eq_append_getElem h, List.flatMap_append]
  simp
theorem flat_take_len {α : Type} (f : α → List UInt8) (l : List α) (i : Nat) : ((l.take i).flatMap f).length ≤ (l.flatMap f).length := by
  have h : l.flatMap f = (l.take i).flatMap f ++ (l.drop i).flatMap f := by rw [← List.flatMap_append, List.take_append_drop]
  rw [h, List.length_append]
  omega
theorem flat_len {α : Type} (f : α → List UInt8) (g : α → Nat) (k : Nat) (l : List α) (h : ∀ x, x ∈ l → (f x).length ≤ g x + k) : (l.flatMap f).length ≤ (l.map g).sum + k * l.length := by
  induction l with
  | nil => simp
  | cons x l ih =>
    have h1 := h x (List.mem_cons_self ..)
    have h2 := ih (fun y hy => h y (List.mem_cons_of_mem _ hy))
    simp only [List.flatMap_cons, List.length_append, List.map_cons, List.sum_cons, List.length_cons, Nat.mul_add, Nat.mul_one]
    omega
theorem sum_zero {α : Type} (l : List α) : (l.map fun _ => 0).sum = 0 := by
  induction l with
  | nil => rfl
  | cons x l ih => rw [List.map_cons, List.sum_cons, ih]
theorem size_len (s : ByteArray) : s.data.toList.length = s.size := by simp
theorem newsI_len (x : S72) : (newsI x).length ≤ 24 := numsL_len [x.f0, x.f1.f0, x.f1.f1]
theorem keysI_len (x : ByteArray) : (keysI x).length ≤ x.size + 8 := by
  unfold keysI
  rw [size_len]
  have := Rec.textB_size x
  omega
theorem accB_size (k : ByteArray) (v : Nat → Int) (j : Nat) : (Rec.accB k v j).size ≤ k.size + 8 + 8 * j := by
  induction j with
  | zero =>
    have := Rec.textB_size k
    show (textB k).size ≤ _
    omega
  | succ j ih =>
    show (Rec.accB k v j ++ putB (v j)).size ≤ _
    have := putB_size (v j)
    rw [ByteArray.size_append]
    omega
theorem recS_size (x : S54) : (recS x).size ≤ x.f0.size + x.f5.size + 64 := by
  unfold recS
  split
  · unfold Rec.recB
    split
    · rw [ByteArray.size_append]
      have h1 := accB_size x.f0 (Rec.lV x.f1.f0 x.f1.f1 x.f1.f2 x.f2 x.f3 x.f4) 6
      have h2 := Rec.textB_size x.f5
      omega
    · have h1 := accB_size x.f0 (Rec.lV x.f1.f0 x.f1.f1 x.f1.f2 x.f2 x.f3 x.f4) 4
      omega
  · exact Nat.zero_le _
theorem recsI_len (x : S54) : (recsI x).length ≤ x.f0.size + x.f5.size + 64 := by
  unfold recsI
  rw [size_len]
  exact recS_size x
theorem seenI_len (x : S56) : (seenI x).length ≤ x.f0.size + 40 := by
  unfold seenI
  rw [List.length_append, size_len]
  have h1 := Rec.textB_size x.f0
  have h2 := numsL_len [x.f1.f0, x.f1.f1, x.f1.f2, x.f2]
  simp only [List.length_cons, List.length_nil] at h2
  omega
theorem digsI_len (x : Int) : (digsI x).length ≤ 16 := numsL_len [x / 4294967296, x % 4294967296]
theorem news_len {m : M} (h : SmM m) : (m.news.flatMap newsI).length ≤ 120000 := by
  have h1 := flat_len newsI (fun _ => 0) 24 m.news (fun x _ => by have := newsI_len x; omega)
  have h2 := h.n1
  rw [sum_zero] at h1
  omega
theorem keys_len {m : M} (h : SmM m) : (m.keys.flatMap keysI).length ≤ 49000 := by
  have h1 := flat_len keysI (fun x => x.size) 8 m.keys (fun x _ => keysI_len x)
  have h2 := h.n2
  have h3 := h.zk
  omega
theorem recs_len {m : M} (h : SmM m) : (m.recs.flatMap recsI).length ≤ 329000 := by
  have h1 := flat_len recsI (fun x => x.f0.size + x.f5.size) 64 m.recs (fun x _ => recsI_len x)
  have h2 := h.n3
  have h3 := h.zr
  omega
theorem seen_len {m : M} (h : SmM m) : (m.seen.flatMap seenI).length ≤ 209000 := by
  have h1 := flat_len seenI (fun x => x.f0.size) 40 m.seen (fun x _ => seenI_len x)
  have h2 := h.n4
  have h3 := h.zs
  omega
theorem digs_len {m : M} (h : SmM m) : (m.digs.flatMap digsI).length ≤ 80000 := by
  have h1 := flat_len digsI (fun _ => 0) 16 m.digs (fun x _ => by have := digsI_len x; omega)
  have h2 := h.n5
  rw [sum_zero] at h1
  omega
theorem head_len (m : M) : (headL m).length ≤ 40 := numsL_len [m.id, m.tg, m.rg, flagN m.flag, (m.news.length : Int)]
theorem num1_len (n : Int) : (numsL [n]).length ≤ 8 := numsL_len [n]
theorem body_len {m : M} (h : SmM m) : (bodyL m).length ≤ 900000 := by
  have h1 := news_len h
  have h2 := keys_len h
  have h3 := recs_len h
  have h4 := seen_len h
  have h5 := digs_len h
  have h0 := head_len m
  have k2 := num1_len m.keys.length
  have k3 := num1_len m.recs.length
  have k4 := num1_len m.seen.length
  have k5 := num1_len m.digs.length
  unfold bodyL
  simp only [List.length_append]
  omega
end Go.Proofs.Ytdjompbhlkgmbaa.Msg
end
section
/- The frame that Pack makes (own text). -/
namespace Go.Proofs.Ytdjompbhlkgmbaa.Frame
open Go.Proofs.Ytdjompbhlkgmbaa Go.RowKit Go.Proofs.Ytdjompbhlkgmbaa.Mem Go.Proofs.Ytdjompbhlkgmbaa.Sum
set_option linter.unusedVariables false
set_option linter.unusedSimpArgs false
theorem penc (c tb k f t : Nat) (b : ByteArray) (w : World) (hc : Cod w c tb) (hk : k < 256) (hf : f < 256) (ht : t < 256) (hb : b.size ≤ 999000) :
    Calls Try.prog 23 #[.pointer (some ⟨c, 0, none⟩), .agg #[.int .u8 (k : Int), .int .u8 (f : Int), .int .u8 (t : Int), .string b]] w fun e w' => e = .returned (.tuple #[.string (encS k f t b), .int .i64 (encE k f t b)]) ∧ IsTab w' tb ∧ Chg (fun x => x = tb) w w' := by
  cases hm : mayF k f t
  · exact enc_no c tb k f t b w hc hk hf ht hb hm
  · exact enc_yes c tb k f t b w hc hk hf ht hb hm
end Go.Proofs.Ytdjompbhlkgmbaa.Frame
namespace Go.Proofs.Ytdjompbhlkgmbaa.Msg
open Go.RowKit Go.Proofs.Ytdjompbhlkgmbaa.Mem Go.Proofs.Ytdjompbhlkgmbaa.PMsg
set_option linter.unusedVariables false
theorem body_size (m : M) : (bodyB m).size = (bodyL m).length := by
  show (bodyL m).toArray.size = _
  rw [List.size_toArray]
theorem packEnc (m : M) (b c tb : Nat) (w : World) (h : MCod w b c tb) (hs : SmM m) : Calls Try.prog 23 #[.pointer (some ⟨c, 0, none⟩), .agg #[.int .u8 m.kind, .int .u8 m.fr, .int .u8 m.dst, .string (bodyB m)]] w fun e w' => e = .returned (.tuple #[.string (Frame.encS m.kind.toNat m.fr.toNat m.dst.toNat (bodyB m)), .int .i64 (Frame.encE m.kind.toNat m.fr.toNat m.dst.toNat (bodyB m))]) ∧ Sum.IsTab w' tb ∧ Chg (fun x => x = tb) w w' := by
  have h1 := hs.kind
  have h2 := hs.fr
  have h3 := hs.dst
  unfold isB at h1 h2 h3
  have hb := body_len hs
  have := Frame.penc c tb m.kind.toNat m.fr.toNat m.dst.toNat (bodyB m) w h.c (by omega) (by omega) (by omega) (by rw [body_size]; omega)
  rw [Int.toNat_of_nonneg h1.1, Int.toNat_of_nonneg h2.1, Int.toNat_of_nonneg h3.1] at this
  exact this
theorem dig_and (x : Int) (h0 : 0 ≤ x) (h1 : x ≤ 18446744073709551615) : Go.bits .and .u64 x 4294967295 = x % 4294967296 := by
  have h := bits_and_u64_nat x.toNat 4294967295 (by omega) (by omega)
  rw [Int.toNat_of_nonneg h0, show ((4294967295 : Nat) : Int) = 4294967295 from rfl] at h
  rw [h, show (4294967295 : Nat) = 2 ^ 32 - 1 from rfl, Nat.and_two_pow_sub_one_eq_mod]
  omega
theorem flag_len (b : Bool) : (Num.putB (flagN b)).size = 1 := by cases b <;> kernel_rfl
theorem body_ne (m : M) : bodyB m ≠ ⟨([] : List UInt8).toArray⟩ := by
  intro h
  have h1 := congrArg ByteArray.size h
  rw [body_size] at h1
  have h2 : (bodyL m).length = 0 := h1
  have h3 := flag_len m.flag
  unfold bodyL headL at h2
  simp only [List.length_append] at h2
  have h4 : (numsL [m.id, m.tg, m.rg, flagN m.flag, (m.news.length : Int)]).length = 0 := by omega
  unfold numsL at h4
  simp only [List.flatMap_cons, List.length_append, size_len] at h4
  omega
/-- What is new, and what turns alone. -/
theorem chg_step {S : Nat → Prop} {w w1 w2 : World} (h : Below w.heap.size w w1) (k : Chg S w1 w2) : Chg S w w2 :=
  ⟨k.os.trans h.os, k.tape.trans h.tape, k.output.trans h.output, Nat.le_trans h.size k.size, fun i hi hn => (k.block i (Nat.lt_of_lt_of_le hi h.size) hn).trans (h.block i hi)⟩
end Go.Proofs.Ytdjompbhlkgmbaa.Msg
end

/- Merged of FeedStep, FeedOps, FeedRow, FeedTake, FeedFix (own text; wip/tools/merge.py). -/
import Derived.Test.YthinmioognadpaaDoorFeedA
import Derived.Test.YthinmioognadpaaDoorFeedB
import Derived.Test.YthinmioognadpaaDoorFeedC
import Derived.Test.YthinmioognadpaaDoorCmdC
/- A feed's step: one byte, whatever it reads next (own text). -/
namespace Go.Proofs.YthinmioognadpaaDoor.Feed
open Go.RowKit Go.Proofs.YthinmioognadpaaDoor.Mem Go.Proofs.YthinmioognadpaaDoorW.PrintWords Go.Proofs.YthinmioognadpaaDoorW.PrintLast Go.Proofs.YthinmioognadpaaDoorW.PrintMore
set_option linter.unusedVariables false
set_option linter.unusedSimpArgs false
def ansC (a : Cmd.Ans) : Cm := ⟨a.1, a.2.1, a.2.2.1, a.2.2.2.1, a.2.2.2.2.1, a.2.2.2.2.2.1, a.2.2.2.2.2.2.1⟩
def ansD (a : Cmd.Ans) : Int := a.2.2.2.2.2.2.2
def lineP (l : List Int) : Cmd.Ans := Cmd.parseP (Cmd.wordsB (strOfNums (lineL l)))
theorem lineL_len (l : List Int) : (lineL l).length ≤ l.length := by
  unfold lineL
  split
  · rw [List.length_dropLast]; omega
  · exact Nat.le_refl _
theorem strOfNums_size (l : List Int) : (strOfNums l).size = l.length := by
  simp [strOfNums, ByteArray.size]
theorem parse_is (l : List Int) (h : l.length ≤ 100000) : ParseIs l (ansC (lineP l)) (ansD (lineP l)) := fun w => by
  refine (Cmd.parse_any (strOfNums (lineL l)) (by rw [strOfNums_size]; have := lineL_len l; omega) w).mono ?_
  rintro e w' ⟨v, he, hq, hb⟩
  exact ⟨v, he, Kd.Q_mono (Kd.Q_lower hq (Nat.zero_le _)) (fun _ _ => trivial), hb⟩
theorem amtV_lt (s : ByteArray) (h : Cmd.amtB s = true) : 0 ≤ Cmd.amtV s ∧ Cmd.amtV s < 4294967296 := Cmd.amt_facts h
theorem dataP_lt (l : List ByteArray) : Cmd.dataP l < 4294967296 := by
  unfold Cmd.dataP
  split
  · split
    · rename_i h; exact (amtV_lt _ h).2
    · omega
  · omega
theorem parseP_lt (l : List ByteArray) : ansD (Cmd.parseP l) < 4294967296 ∧ (1024 < ansD (Cmd.parseP l) → (ansC (Cmd.parseP l)).kind = 8) := by
  have hd := dataP_lt l
  have hm : (-1 : Int) < 4294967296 ∧ (1024 < (-1 : Int) → False) := ⟨by omega, by omega⟩
  unfold Cmd.parseP Cmd.setP
  repeat' split
  all_goals first
    | exact ⟨by show (-1 : Int) < 4294967296; omega, fun h => absurd h (by show ¬ (1024 < (-1 : Int)); omega)⟩
    | exact ⟨hd, fun _ => rfl⟩
    | exact ⟨hd, fun h => absurd h (by assumption)⟩
/-- What one byte does. -/
def stepP (s : St) (x : Int) : St × Cm × Bool :=
  if s.mode = 0 then
    (if x = 10 then
      (if ansD (lineP s.held) < 0 then ({ s with held := [], over := (ansC (lineP s.held)).kind == 7 }, ansC (lineP s.held), true)
       else ({ s with held := [], c := ansC (lineP s.held), left := ansD (lineP s.held), tail := 0, cr := false, mode := if ansD (lineP s.held) = 0 then 3 else 2 }, ansC (lineP s.held), (ansC (lineP s.held)).kind == 8))
     else if s.held.length < 2048 then ({ s with held := s.held ++ [x] }, cm0, false)
     else ({ s with held := [], mode := 1 }, badC longB, true))
  else if s.mode = 1 then (passS s x, cm0, false)
  else if s.mode = 2 then (dataS s x, cm0, false)
  else (if x = 10 then endS s else tailS s x, if x = 10 then endC s else cm0, if x = 10 then s.c.kind != 8 else false)
/-- What holds of a feed ahead of each byte. -/
def Inv (s : St) : Prop := s.mode ≤ 3 ∧ s.held.length ≤ 2048 ∧ (0 ≤ s.tail ∧ s.tail ≤ 2) ∧ (s.mode = 2 → 1 ≤ s.left ∧ s.left ≤ 4294967296 ∧ (s.c.kind = 8 ∨ (s.held.length : Int) + s.left ≤ 1024))
theorem inv0 : Inv st0 := ⟨by decide, by decide, ⟨by decide, by decide⟩, fun h => absurd h (by decide)⟩
theorem inv_step (s : St) (x : Int) (h : Inv s) : Inv (stepP s x).1 := by
  obtain ⟨h1, h2, ⟨h3, h4⟩, h5⟩ := h
  unfold stepP
  split
  · rename_i hm
    split
    · obtain ⟨p1, p2⟩ := parseP_lt (Cmd.wordsB (strOfNums (lineL s.held)))
      split
      · exact ⟨h1, by show 0 ≤ 2048; omega, ⟨h3, h4⟩, fun e => absurd (hm.symm.trans e) (by decide)⟩
      · rename_i hd
        refine ⟨by show (if _ then 3 else 2) ≤ 3; split <;> omega, by show 0 ≤ 2048; omega, ⟨by show (0 : Int) ≤ 0; omega, by show (0 : Int) ≤ 2; omega⟩, fun e => ?_⟩
        have e' : (if ansD (lineP s.held) = 0 then 3 else 2) = 2 := e
        have h0 : ¬ ansD (lineP s.held) = 0 := fun h0 => by rw [if_pos h0] at e'; omega
        have p1' : ansD (lineP s.held) < 4294967296 := p1
        refine ⟨by show 1 ≤ ansD (lineP s.held); omega, by show ansD (lineP s.held) ≤ 4294967296; omega, ?_⟩
        by_cases hb : 1024 < ansD (lineP s.held)
        · exact .inl (p2 hb)
        · exact .inr (by show ((0 : Nat) : Int) + ansD (lineP s.held) ≤ 1024; omega)
    · split
      · exact ⟨h1, by show (s.held ++ [x]).length ≤ 2048; rw [List.length_append]; show s.held.length + 1 ≤ 2048; omega, ⟨h3, h4⟩, fun e => absurd (hm.symm.trans e) (by decide)⟩
      · exact ⟨by show 1 ≤ 3; omega, by show 0 ≤ 2048; omega, ⟨h3, h4⟩, fun e => absurd e (by show ¬ 1 = 2; decide)⟩
  · split
    · rename_i hm
      unfold passS
      split
      · exact ⟨by show 0 ≤ 3; omega, h2, ⟨h3, h4⟩, fun e => absurd e (by show ¬ 0 = 2; decide)⟩
      · exact ⟨h1, h2, ⟨h3, h4⟩, h5⟩
    · split
      · rename_i hm
        obtain ⟨l1, l2, l3⟩ := h5 hm
        unfold dataS
        refine ⟨by show (if _ then 3 else _) ≤ 3; split <;> omega, ?_, ⟨h3, h4⟩, fun e => ?_⟩
        · show (if s.c.kind = 8 then s.held else s.held ++ [x]).length ≤ 2048
          split
          · exact h2
          · rename_i h8
            rw [List.length_append]
            show s.held.length + 1 ≤ 2048
            rcases l3 with l3 | l3
            · exact absurd l3 h8
            · omega
        · have e' : (if s.left - 1 = 0 then 3 else s.mode) = 2 := e
          have h0 : ¬ s.left - 1 = 0 := fun h0 => by rw [if_pos h0] at e'; omega
          refine ⟨by show 1 ≤ s.left - 1; omega, by show s.left - 1 ≤ 4294967296; omega, ?_⟩
          rcases l3 with l3 | l3
          · exact .inl l3
          · by_cases h8 : s.c.kind = 8
            · exact .inl h8
            · refine .inr ?_
              show ((if s.c.kind = 8 then s.held else s.held ++ [x]).length : Int) + (s.left - 1) ≤ 1024
              rw [if_neg h8, List.length_append]
              show ((s.held.length + 1 : Nat) : Int) + (s.left - 1) ≤ 1024
              omega
      · split
        · exact ⟨by show 0 ≤ 3; omega, by show 0 ≤ 2048; omega, ⟨h3, h4⟩, fun e => absurd e (by show ¬ 0 = 2; decide)⟩
        · refine ⟨h1, h2, ⟨?_, ?_⟩, h5⟩
          · show 0 ≤ (if 2 < s.tail + 1 then 2 else s.tail + 1)
            split <;> omega
          · show (if 2 < s.tail + 1 then 2 else s.tail + 1) ≤ 2
            split <;> omega
theorem step_any (b : Nat) (s : St) (hv : Value) (x : Int) (w : World) (h : FeedAt w b s hv) (hi : Inv s) :
    Calls Tryd.prog (modeF s.mode) #[.pointer (some ⟨b, 0, none⟩), .int .u8 x] w (StepsTo b hv w (stepP s x).1 (stepP s x).2.1 (stepP s x).2.2) := by
  obtain ⟨h1, h2, ⟨h3, h4⟩, h5⟩ := hi
  have hl : s.held.length ≤ 100000 := by omega
  unfold stepP
  split
  · rename_i hm
    have hf : modeF s.mode = 14 := by rw [hm]; rfl
    rw [hf]
    split
    · rename_i hx
      subst hx
      have hp := parse_is s.held hl
      by_cases hq : s.held.length = 0
      · split
        · rename_i hd; exact nl_Ne b s hv _ _ w h hl hp hq hd
        · rename_i hd
          by_cases h0 : ansD (lineP s.held) = 0
          · rw [if_pos h0]; exact nl_Ze b s hv _ _ w h hl hp hq h0
          · rw [if_neg h0]; exact nl_Pe b s hv _ _ w h hl hp hq (by omega)
      · have hq' : 0 < s.held.length := by omega
        by_cases h13 : s.held.getLast? = some 13
        · split
          · rename_i hd; exact nl_Nr b s hv _ _ w h hl hp hq' h13 hd
          · rename_i hd
            by_cases h0 : ansD (lineP s.held) = 0
            · rw [if_pos h0]; exact nl_Zr b s hv _ _ w h hl hp hq' h13 h0
            · rw [if_neg h0]; exact nl_Pr b s hv _ _ w h hl hp hq' h13 (by omega)
        · split
          · rename_i hd; exact nl_Nn b s hv _ _ w h hl hp hq' h13 hd
          · rename_i hd
            by_cases h0 : ansD (lineP s.held) = 0
            · rw [if_pos h0]; exact nl_Zn b s hv _ _ w h hl hp hq' h13 h0
            · rw [if_neg h0]; exact nl_Pn b s hv _ _ w h hl hp hq' h13 (by omega)
    · rename_i hx
      split
      · rename_i h48; exact line_short b s hv x w h hl hx h48
      · rename_i h48; exact line_long b s hv x w h hl hx h48
  · rename_i hm0
    split
    · rename_i hm
      have hf : modeF s.mode = 21 := by rw [hm]; rfl
      rw [hf]
      exact pass_any b s hv x w h
    · rename_i hm1
      split
      · rename_i hm
        have hf : modeF s.mode = 24 := by rw [hm]; rfl
        rw [hf]
        obtain ⟨l1, l2, _⟩ := h5 hm
        exact data_any b s hv x w h hl ⟨by omega, l2⟩
      · rename_i hm2
        have hm : s.mode = 3 := by omega
        have hf : modeF s.mode = 25 := by rw [hm]; rfl
        rw [hf]
        exact end_any b s hv x w h hl ⟨h3, by omega⟩
end Go.Proofs.YthinmioognadpaaDoor.Feed

/- New, Held and Over of a feed (own text). -/
namespace Go.Proofs.YthinmioognadpaaDoor.Feed
open Go.RowKit Go.Proofs.YthinmioognadpaaDoor.Mem Go.Proofs.YthinmioognadpaaDoorW.PrintWords Go.Proofs.YthinmioognadpaaDoorW.PrintLast Go.Proofs.YthinmioognadpaaDoorW.PrintMore
set_option linter.unusedVariables false
set_option linter.unusedSimpArgs false
set_option maxRecDepth 100000 in
set_option maxHeartbeats 3200000 in
theorem new_any (w : World) : Calls Tryd.prog 8 #[] w fun e w' => e = .returned (.pointer (some ⟨w.heap.size, 0, none⟩)) ∧ FeedAt w' w.heap.size st0 (.slice none 0 0) ∧ Below w.heap.size w w' := by
  go_enter Tryd.func8, Tryd.ntmps8
  go_upto_region 2 with (fail)
  have hn := at_new w #[.nilFunc, .slice none 0 0, .int .i64 0, .slice none 0 0, .int .u32 0, .int .i64 0, .string ⟨#[]⟩, .bool false, .string ⟨#[]⟩, .int .i64 0, .int .i64 0, .bool false, .bool false] 42
  have hb := below_alloc (Below.refl w.heap.size w) (.cells #[.nilFunc, .slice none 0 0, .int .i64 0, .slice none 0 0, .int .u32 0, .int .i64 0, .string ⟨#[]⟩, .bool false, .string ⟨#[]⟩, .int .i64 0, .int .i64 0, .bool false, .bool false] 42)
  generalize w.alloc (.cells #[.nilFunc, .slice none 0 0, .int .i64 0, .slice none 0 0, .int .u32 0, .int .i64 0, .string ⟨#[]⟩, .bool false, .string ⟨#[]⟩, .int .i64 0, .int .i64 0, .bool false, .bool false] 42) = w1 at *
  have e0 : w1.cell? ⟨w.heap.size, 0, none⟩ = some .nilFunc := hn.cell 0
  have f0 := hn.free 0
  have HN := Lib.hid hn
  have HB := Lib.hid hb
  clear hn hb
  go_wp2
  go_ret
  exact ⟨rfl, ⟨.slice none 0 0, at_set' HN.out rfl, Kd.R_nil _ _ _ _ _, keys_nil _⟩, below_set HB.out (Nat.le_refl _)⟩
theorem held_nil (w : World) : Calls Tryd.prog 12 #[.pointer none] w fun e w' => e = .returned (.int .i64 0) ∧ Below w.heap.size w w' := by
  go_enter Tryd.func12, Tryd.ntmps12
  go_wp2
  go_ret
  exact ⟨rfl, by repeat (first | exact Below.refl _ _ | apply pw_below_drewN | apply below_drew)⟩
theorem held_any (b : Nat) (s : St) (hv : Value) (w : World) (h : FeedAt w b s hv) : Calls Tryd.prog 12 #[.pointer (some ⟨b, 0, none⟩)] w fun e w' => e = .returned (.int .i64 (s.held.length : Int)) ∧ Below w.heap.size w w' := by
  obtain ⟨kv, ha, hr, hk⟩ := h
  obtain ⟨A0, c0, ev⟩ := Kd.R_slice hr
  have c1 : w.cell? ⟨b, 1, none⟩ = some hv := ha.cell 1
  rw [ev] at c1
  clear ha hr hk ev
  go_enter Tryd.func12, Tryd.ntmps12
  go_wp2
  go_ret
  exact ⟨rfl, by repeat (first | exact Below.refl _ _ | apply pw_below_drewN | apply below_drew)⟩
theorem over_nil (w : World) : Calls Tryd.prog 13 #[.pointer none] w fun e w' => e = .returned (.bool true) ∧ Below w.heap.size w w' := by
  go_enter Tryd.func13, Tryd.ntmps13
  go_wp2
  go_ret
  exact ⟨rfl, by repeat (first | exact Below.refl _ _ | apply pw_below_drewN | apply below_drew)⟩
theorem over_any (b : Nat) (s : St) (hv : Value) (w : World) (h : FeedAt w b s hv) : Calls Tryd.prog 13 #[.pointer (some ⟨b, 0, none⟩)] w fun e w' => e = .returned (.bool s.over) ∧ Below w.heap.size w w' := by
  obtain ⟨kv, ha, hr, hk⟩ := h
  have c1 : w.cell? ⟨b, 12, none⟩ = some (.bool s.over) := ha.cell 12
  clear ha hr hk
  go_enter Tryd.func13, Tryd.ntmps13
  go_wp2
  go_ret
  exact ⟨rfl, by repeat (first | exact Below.refl _ _ | apply pw_below_drewN | apply below_drew)⟩
end Go.Proofs.YthinmioognadpaaDoor.Feed

/- The row of commands that a feed tells: its kind, what moves it (own text). -/
namespace Go.Proofs.YthinmioognadpaaDoor.Feed
open Go.RowKit Go.Proofs.YthinmioognadpaaDoor.Mem Go.Proofs.YthinmioognadpaaDoorW.PrintWords Go.Proofs.YthinmioognadpaaDoorW.PrintLast Go.Proofs.YthinmioognadpaaDoorW.PrintMore
set_option linter.unusedVariables false
set_option linter.unusedSimpArgs false
theorem mode_fn (m : Nat) (hm : m ≤ 3) : ∃ fn, Tryd.prog.funcs[modeF m]? = some fn ∧ (fn.name == "runtime.NumGoroutine") = false ∧ fn.body.isSome = true := by
  match m, hm with
  | 0, _ => exact ⟨Tryd.f14, Tryd.func14, rfl, rfl⟩
  | 1, _ => exact ⟨Tryd.f21, Tryd.func21, rfl, rfl⟩
  | 2, _ => exact ⟨Tryd.f24, Tryd.func24, rfl, rfl⟩
  | 3, _ => exact ⟨Tryd.f25, Tryd.func25, rfl, rfl⟩
theorem goes_val {P : Program} {ops : Array Oper} {Q : Exit → Act → World → Prop} {oi : Oper} {N : Option Tmp} {a : Act} {w : World} {K : Act → World → Prop} {f : FuncId} {fn : Func} {t : Operand} {bound : Array Value} {ars : Array Operand} {ts : Array TypeId} (hf : P.funcs[f]? = some fn) (hname : (fn.name == "runtime.NumGoroutine") = false) (hb : fn.body.isSome = true) (args : Array Value)
    (hw : Region.wanted oi (yielded ops a.tmps) = true) (hN : oi.dst = N) (hop : oi.op = .call { callee := .value t, args := ars, argTypes := ts }) (hv : a.eval t = .func (.func f) bound #[]) (hargs : bound ++ ars.map a.eval = args)
    (h : Calls P f args w fun e w' => ∃ v, e = .returned v ∧ K (a.put N v) w') : if Region.wanted oi (yielded ops a.tmps) = true then Oper.wp P oi a w K Q else K (a.put N undef) w := by
  refine call_ f args hw hN ?_ h
  have he := enters_ hf hname hb args w
  unfold execOp
  simp [hop, resolve, Deferred.ofValue, invoke, hv, hargs, he]
/-- A slice that is read, its row with room behind it. -/
def slq {α : Type} (e : Nat) (d : Kd α) : Kd (List α) where
  sz := 1
  E := e :: d.E
  K := (Kd.slice e d).K
  M := fun w base ok xs cs => ∃ v, cs = [v] ∧ d.Q e w base ok v xs
  K_len := (Kd.slice e d).K_len
  K_one := (Kd.slice e d).K_one
  K_below := (Kd.slice e d).K_below
  K_of_M := by
    rintro w base ok x cs ⟨v, rfl, h⟩
    obtain ⟨A, c, rfl, hl, hr⟩ := Kd.Q_reads h
    exact ⟨A, c, rfl, hl, hr⟩
  M_mono := by
    rintro w base ok ok' x cs hok ⟨v, rfl, h⟩
    exact ⟨v, rfl, Kd.Q_mono h hok⟩
  M_bound := by
    rintro w base ok x cs ⟨v, rfl, h⟩
    exact ⟨v, rfl, Kd.Q_bound h⟩
  M_move := by
    rintro w w1 base ok x cs hm ⟨v, rfl, h⟩
    exact ⟨v, rfl, Kd.Q_move h hm⟩
  M_lower := by
    rintro w base base' ok x cs hb ⟨v, rfl, h⟩
    exact ⟨v, rfl, Kd.Q_lower h hb⟩
def kC : Kd Cm := Kd.iso (Kd.pair (Kd.int .i64) (Kd.pair (slq 9 Kd.string) (Kd.pair (Kd.int .u32) (Kd.pair (Kd.int .i64) (Kd.pair Kd.string (Kd.pair Kd.bool Kd.string)))))) (fun x : Cm => (x.kind, x.keys, x.fl, x.ex, x.body, x.quiet, x.reply))
/-- A command's cells. -/
def cmL (c : Cm) (v : Value) : List Value := [.int .i64 c.kind, v, .int .u32 c.fl, .int .i64 c.ex, .string c.body, .bool c.quiet, .string c.reply]
theorem kC_mkM (w : World) (ok : Nat → Prop) (c : Cm) {v : Value} (h : Kd.Q Kd.string 9 w 0 ok v c.keys) : kC.M w 0 ok c (cmL c v) :=
  ⟨[.int .i64 c.kind], [v, .int .u32 c.fl, .int .i64 c.ex, .string c.body, .bool c.quiet, .string c.reply], rfl, rfl, [v], [.int .u32 c.fl, .int .i64 c.ex, .string c.body, .bool c.quiet, .string c.reply], rfl, ⟨v, rfl, h⟩, [.int .u32 c.fl], [.int .i64 c.ex, .string c.body, .bool c.quiet, .string c.reply], rfl, rfl, [.int .i64 c.ex], [.string c.body, .bool c.quiet, .string c.reply], rfl, rfl, [.string c.body], [.bool c.quiet, .string c.reply], rfl, rfl, [.bool c.quiet], [.string c.reply], rfl, rfl, rfl⟩
theorem infoC : (Tryd.prog.info? 28).map (fun i => (i.zero, i.size, i.bytes)) = some (some (.agg #[.int .i64 0, .slice none 0 0, .int .u32 0, .int .i64 0, .string ⟨#[]⟩, .bool false, .string ⟨#[]⟩]), 7, 88) := by kernel_rfl
/-- The commands told so far. -/
def Out (w : World) (v : Value) (l : List Cm) : Prop := kC.R 28 w 0 (fun _ => True) v l
theorem out_nil (w : World) : Out w (.slice none 0 0) [] := Kd.R_nil _ _ _ _ _
/-- Blocks of other types turn. -/
theorem out_keep {w w' : World} {v : Value} {l : List Cm} (h : Out w v l) (hk : ∀ (k : Nat) (cells : Array Value) (q : Nat), q = 28 ∨ q = 9 → w.heap[k]? = some (Obj.cells cells q (0, 0)) → w'.heap[k]? = w.heap[k]?) : Out w' v l := by
  refine Kd.R_mono (Kd.R_move (Kd.R_bound h) (fun k hq => ?_)) (fun _ _ => trivial)
  obtain ⟨_, _, _, q, hq, cells, hc⟩ := hq
  have e : q ∈ [(28 : Nat), 9] := hq
  exact hk k cells q (by simpa using e) hc
theorem typ_ne {w : World} {k y : Nat} {cs cs' : Array Value} {t t' : TypeId} (h : At w k cs t) (h' : w.heap[y]? = some (Obj.cells cs' t' (0, 0))) (ht : t ≠ t') : y ≠ k := by
  intro e
  unfold At at h
  rw [e, h] at h'
  injection h' with h'
  injection h' with _ h2
  exact ht h2
theorem own_typ {w : World} {hv : Value} {l : List Int} {y : Nat} {cs : Array Value} {t : TypeId} (h : (Kd.int .u8).R 5 w 0 (fun _ => True) hv l) (h' : w.heap[y]? = some (Obj.cells cs t (0, 0))) (ht : 5 ≠ t) : some y ≠ hv.ownBlock := Kd.R_ne h h' ht
theorem turn_at {w w' : World} {b : Nat} {s : St} {hv : Value} {y : Nat} {cs : Array Value} {t : TypeId} (hf : FeedAt w b s hv) (k : Turn b hv w w') (h : w.heap[y]? = some (Obj.cells cs t (0, 0))) (h1 : 42 ≠ t) (h2 : 5 ≠ t) : w'.heap[y]? = w.heap[y]? := by
  obtain ⟨kv, ha, hr, _⟩ := hf
  refine k.block y (Array.getElem?_eq_some_iff.1 h).1 ?_
  rintro (e | e)
  · exact typ_ne ha h h1 e
  · exact own_typ hr h h2 e
theorem out_turn {w w' : World} {b : Nat} {s : St} {hv v : Value} {l : List Cm} (hf : FeedAt w b s hv) (h : Out w v l) (k : Turn b hv w w') : Out w' v l :=
  out_keep h (fun y cells q hq hc => turn_at hf k hc (by rcases hq with rfl | rfl <;> decide) (by rcases hq with rfl | rfl <;> decide))
theorem out_below {w w' : World} {v : Value} {l : List Cm} (h : Out w v l) (k : Below w.heap.size w w') : Out w' v l := Kd.R_below h k
/-- A command's own block turns, that isn't the row. -/
theorem out_res {w w' : World} {v : Value} {l : List Cm} {y : Nat} {cs : Array Value} (h : Out w v l) (hy : At w y cs 28) (hne : some y ≠ v.ownBlock) (k : Chg (fun i => i = y) w w') : Out w' v l := by
  have h0 : kC.R 28 w 0 (fun j => True ∧ j ≠ y) v l := by
    obtain ⟨h1, inner, ho, hr⟩ := Kd.R_bound h
    refine ⟨fun j hj => ⟨trivial, fun e => hne (by rw [← e]; exact hj.symm)⟩, inner, ho, hr.imp_ (fun _ _ hp => ?_)⟩
    refine kC.M_mono (fun j hj => ?_) (kC.M_bound hp)
    obtain ⟨⟨⟨_, _, _, q0, _, _, _⟩, hne'⟩, _, _, q, hq, cells, hc⟩ := hj
    refine ⟨⟨trivial, ?_⟩, hne'⟩
    have e : q ∈ [(9 : Nat)] := hq
    have e' : q = 9 := by simpa using e
    subst e'
    exact typ_ne hy hc (by decide)
  exact Kd.R_mono (Kd.R_step h0 (fun j hj hlt => k.block j hlt hj.2)) (fun _ _ => trivial)
/-- The row has grown: the feed stands as it is. -/
theorem feed_out {w w' : World} {b : Nat} {s : St} {hv v : Value} {l : List Cm} (hf : FeedAt w b s hv) (h : Out w v l) (k : w.grownBy w' v.ownBlock) : FeedAt w' b s hv := by
  obtain ⟨kv, ha, hr, hk⟩ := hf
  have hne : ∀ (y : Nat) (cs : Array Value) (t : TypeId), w.heap[y]? = some (Obj.cells cs t (0, 0)) → 28 ≠ t → some y ≠ v.ownBlock := fun y cs t h1 h2 => Kd.R_ne h h1 h2
  refine ⟨kv, (k.block b ha.lt (hne b _ _ ha (by decide))).trans ha, Kd.R_mono (Kd.R_step (Kd.R_tight rfl hr) (fun j hj hlt => ?_)) (fun _ _ => trivial), keys_keep hk (fun j cells hc => k.block j (Array.getElem?_eq_some_iff.1 hc).1 (hne j _ _ hc (by decide)))⟩
  obtain ⟨cells', hc'⟩ := Kd.R_typed hr j hj.symm
  exact k.block j hlt (hne j _ _ hc' (by decide))
theorem turn_out {w w1 w2 : World} {b : Nat} {hv v : Value} (h : Turn b hv w w1) (k : w1.grownBy w2 v.ownBlock) (hn : ∀ j, v.ownBlock = some j → w.heap.size ≤ j) : Turn b hv w w2 :=
  ⟨k.os.trans h.os, k.tape.trans h.tape, k.output.trans h.output, Nat.le_trans h.size k.size, fun i hi hs => (k.block i (Nat.lt_of_lt_of_le hi h.size) (fun e => by have := hn i e.symm; omega)).trans (h.block i hi hs)⟩
def Own (hv hv' : Value) (w : World) : Prop := hv'.ownBlock = hv.ownBlock ∨ ∃ k, hv'.ownBlock = some k ∧ w.heap.size ≤ k
theorem turn_trans {w w1 w2 : World} {b : Nat} {hv hv1 : Value} (h : Turn b hv w w1) (o : Own hv hv1 w) (k : Turn b hv1 w1 w2) : Turn b hv w w2 :=
  ⟨k.os.trans h.os, k.tape.trans h.tape, k.output.trans h.output, Nat.le_trans h.size k.size, fun i hi hs => (k.block i (Nat.lt_of_lt_of_le hi h.size) (by
    rintro (e | e)
    · exact hs (.inl e)
    · rcases o with o | ⟨j, o, oj⟩
      · exact hs (.inr (e.trans o))
      · rw [o] at e; injection e with e; omega)).trans (h.block i hi hs)⟩
theorem own_trans {w w1 : World} {hv hv1 hv2 : Value} (o : Own hv hv1 w) (o1 : Own hv1 hv2 w1) (hs : w.heap.size ≤ w1.heap.size) : Own hv hv2 w := by
  rcases o1 with o1 | ⟨j, o1, oj⟩
  · rcases o with o | ⟨j, o, oj⟩
    · exact .inl (o1.trans o)
    · exact .inr ⟨j, o1.trans o, oj⟩
  · exact .inr ⟨j, o1, by omega⟩
end Go.Proofs.YthinmioognadpaaDoor.Feed

/- Take: a stream goes on (own text; written by wip/tools/gen_feedtake.py). -/
namespace Go.Proofs.YthinmioognadpaaDoor.Feed
open Go.RowKit Go.Proofs.YthinmioognadpaaDoor.Mem Go.Proofs.YthinmioognadpaaDoorW.PrintWords Go.Proofs.YthinmioognadpaaDoorW.PrintLast Go.Proofs.YthinmioognadpaaDoorW.PrintMore
set_option linter.unusedVariables false
set_option linter.unusedSimpArgs false
def bytesL (s : ByteArray) : List Int := s.data.toList.map fun c => (c.toNat : Int)
theorem bytesL_len (s : ByteArray) : (bytesL s).length = s.size := by
  unfold bytesL
  rw [List.length_map, Array.length_toList]
  rfl
theorem bytesL_at (s : ByteArray) (i : Nat) (h : i < s.size) : (bytesL s).drop i = bt s (i : Int) :: (bytesL s).drop (i + 1) := by
  obtain ⟨c, hc, hb⟩ := Cmd.drop_bt s i h
  unfold bytesL
  rw [← List.map_drop, hc, List.map_cons, hb, List.map_drop]
/-- What a stream tells, from a feed and what was told ahead. -/
def takeA : St → List Cm → List Int → St × List Cm
  | s, o, [] => (s, o)
  | s, o, x :: r => if s.over = true then (s, o) else takeA (stepP s x).1 (if (stepP s x).2.2 = true then o ++ [(stepP s x).2.1] else o) r
theorem takeA_over {s : St} (h : s.over = true) (o : List Cm) (l : List Int) : takeA s o l = (s, o) := by
  cases l with
  | nil => rfl
  | cons x r => unfold takeA; rw [if_pos h]
theorem takeA_step {s : St} (h : s.over = false) (o : List Cm) (x : Int) (r : List Int) {s2 : St} {c2 : Cm} {tl : Bool} (hp : (s2, c2, tl) = stepP s x) : takeA s o (x :: r) = takeA s2 (if tl = true then o ++ [c2] else o) r := by
  rw [takeA, if_neg (by rw [h]; simp), ← hp]
theorem keys_str {w : World} {v : Value} {ks : List ByteArray} (h : KeysAt w v ks) : Kd.Q Kd.string 9 w 0 (fun j => ∃ cells, w.heap[j]? = some (Obj.cells cells 9 (0, 0))) v ks := by
  refine Kd.Q_mono (Kd.Q_bound h) (fun j hj => ?_)
  obtain ⟨_, _, _, q, hq, cells, hc⟩ := hj
  have e : q ∈ [(9 : Nat)] := hq
  have e' : q = 9 := by simpa using e
  subst e'
  exact ⟨cells, hc⟩
def New (v : Value) (w : World) : Prop := ∀ j, v.ownBlock = some j → w.heap.size ≤ j
theorem new_nil (w : World) : New (.slice none 0 0) w := fun j hj => by cases hj
theorem new_app {v v1 : Value} {w W : World} (h : New v w) (hat : v1.ownBlock = v.ownBlock ∨ ∃ b, v1.ownBlock = some b ∧ W.heap.size ≤ b) (hs : w.heap.size ≤ W.heap.size) : New v1 w := by
  intro j hj
  rcases hat with e | ⟨b, e, hb⟩
  · exact h j (e.symm.trans hj)
  · rw [e] at hj; injection hj with hj; omega
/-- What Take ends in. -/
def TakesTo (b : Nat) (hv : Value) (w : World) (R : St × List Cm) (e : Ending) (w' : World) : Prop :=
  ∃ v hv', e = .returned v ∧ Hid (Out w' v R.2) ∧ Hid (FeedAt w' b R.1 hv') ∧ Hid (Inv R.1) ∧ Hid (Turn b hv w w') ∧ Hid (Own hv hv' w) ∧ Hid (New v w)
set_option maxRecDepth 100000 in
set_option maxHeartbeats 3200000 in
theorem take_any (b : Nat) (s : St) (hv : Value) (str : ByteArray) (w : World) (h : FeedAt w b s hv) (hi : Inv s) (hs : str.size ≤ 1000000) :
    Calls Tryd.prog 10 #[.pointer (some ⟨b, 0, none⟩), .string str] w (TakesTo b hv w (takeA s [] (bytesL str))) := by
  obtain ⟨R, hR⟩ : ∃ R, R = takeA s [] (bytesL str) := ⟨_, rfl⟩
  rw [← hR]
  have HS := Lib.hid hs
  have H0 := Lib.hid h
  have HI := Lib.hid hi
  have HR := Lib.hid hR
  have hsz : (str.size : Int) ≤ 1000000 := by omega
  clear hR hi h hs
  go_enter Tryd.func10, Tryd.ntmps10
  go_wp2_with (fail)
  go_loopw [5, 6] (fun v5 v6 w' => ∃ (k : Nat) (sk : St) (hvk : Value) (out : List Cm), k ≤ str.size ∧ v6 = .int .i64 k ∧ Hid (takeA sk out ((bytesL str).drop k) = R) ∧ Hid (out.length ≤ k) ∧ Hid (Inv sk) ∧ Hid (FeedAt w' b sk hvk) ∧ Hid (Out w' v5 out) ∧ Hid (Turn b hv w w') ∧ Hid (Own hv hvk w) ∧ Hid (New v5 w)) (fun _ i _ => str.size - (intOf i).toNat)
  case atStart => exact ⟨0, s, hv, [], Nat.zero_le _, rfl, Lib.hid HR.out.symm, Lib.hid (Nat.le_refl _), HI, H0, Lib.hid (out_nil _), Lib.hid (turn_refl _ _ _), Lib.hid (.inl rfl), Lib.hid (new_nil w)⟩
  case round =>
    clear HR H0 HI
    obtain ⟨k, sk, hvk, out, hk, rfl, HR, HL, HI, HF, HO, HT, HW, HNW⟩ := hrel
    by_cases hlt : k < str.size
    · cases hov : sk.over with
      | true =>
        have c12 : wr.cell? ⟨b, 12, none⟩ = some (.bool sk.over) := by obtain ⟨_, ha, _⟩ := HF.out; exact ha.cell 12
        rw [hov] at c12
        have hres := HR.out
        rw [takeA_over hov] at hres
        have HRR := Lib.hid hres
        clear hres hov
        go_wp2_with (fail)
        go_ret
        rw [← HRR.out]
        exact ⟨_, hvk, rfl, HO, HF, HI, HT, HW, HNW⟩
      | false =>
        have c12 : wr.cell? ⟨b, 12, none⟩ = some (.bool sk.over) := by obtain ⟨_, ha, _⟩ := HF.out; exact ha.cell 12
        rw [hov] at c12
        obtain ⟨y, hy⟩ : ∃ y : Int, y = (k : Int) := ⟨_, rfl⟩
        obtain ⟨x, hx⟩ : ∃ x : Int, x = bt str y := ⟨_, rfl⟩
        have hxx := bt_at str y
        rw [← hx] at hxx
        obtain ⟨⟨s2, c2, tl⟩, hp⟩ : ∃ p, p = stepP sk x := ⟨_, rfl⟩
        have hstep := HR.out
        rw [bytesL_at str k hlt, ← hy, ← hx, takeA_step hov _ _ _ hp] at hstep
        have HR2 := Lib.hid hstep
        have hst := fun W (hf : FeedAt W b sk hvk) => step_any b sk hvk x W hf HI.out
        rw [← hp] at hst
        unfold StepsTo cmV at hst
        have hi2 := inv_step sk x HI.out
        rw [← hp] at hi2
        have HI2 := Lib.hid hi2
        have STEP := Lib.hid hst
        have MF := Lib.hid (mode_fn sk.mode HI.out.1)
        have HE := Lib.hid (show wr.cell? ⟨b, 0, none⟩ = some (.func (.func (modeF sk.mode)) #[.pointer (some ⟨b, 0, none⟩)] #[]) from by obtain ⟨_, ha, _⟩ := HF.out; exact ha.cell 0)
        dsimp only at HI2 STEP
        have y0 : (0 : Int) ≤ y := by omega
        have y1 : y < (str.size : Int) := by omega
        have y2 : y.toNat < str.size := by omega
        have vk : IntKind.i64.wrap (y + 1) = y + 1 := IntWalk.i64_in _ ⟨by omega, by omega⟩
        have HY := Lib.hid hy
        clear hstep hst hi2 hov hp hx hsz HR HI
        rw [← hy]
        clear hy
        go_wp2_with (fail)
        replace HF := Lib.hid (feed_below HF.out (below_drew (Below.refl _ _)))
        replace HO := Lib.hid (out_below HO.out (below_drew (Below.refl _ _)))
        replace HT := Lib.hid (turn_below HT.out (below_drew (Below.refl _ _)))
        replace HE := Lib.hid (show wr.drew.cell? ⟨b, 0, none⟩ = some (.func (.func (modeF sk.mode)) #[.pointer (some ⟨b, 0, none⟩)] #[]) from HE.out)
        refine start_ (n := 14) (S := fun w' => True) (ds := []) #[false, false, false, false, false, false, false, false, false, false, false, false, false, false] (by kernel_rfl) rfl rfl trivial (fun hHeld => ?_)
        generalize wr.drew = w9 at HF HO HT HE ⊢
        refine pure_ (i := 0) (N := some 26) (v := ?_) (a' := ?_) #[true, false, false, false, false, false, false, false, false, false, false, false, false, false] rfl rfl (by kernel_rfl) (fun _ _ _ h => h) (Or.inl ⟨by rfl, ?_⟩) ?_ ?_
        rotate_left
        · intro w'
          go_simp
          with_reducible rfl
        rotate_left
        · simp only [Act.put, List.setIfInBounds_toArray, List.set_cons_zero, List.set_cons_succ, i64_w, i32_w]
          rfl
        refine pure_ (i := 1) (N := some 27) (v := ?_) (a' := ?_) #[true, true, false, false, false, false, false, false, false, false, false, false, false, false] rfl rfl (by kernel_rfl) (fun _ _ _ h => h) (Or.inl ⟨by rfl, ?_⟩) ?_ ?_
        rotate_left
        · intro w'
          go_simp
          with_reducible rfl
        rotate_left
        · simp only [Act.put, List.setIfInBounds_toArray, List.set_cons_zero, List.set_cons_succ, i64_w, i32_w]
          rfl
        refine pure_ (i := 2) (N := some 28) (v := ?_) (a' := ?_) #[true, true, true, false, false, false, false, false, false, false, false, false, false, false] rfl rfl (by kernel_rfl) (fun _ _ _ h => h) (Or.inl ⟨by rfl, ?_⟩) ?_ ?_
        rotate_left
        · intro w'
          go_simp
          with_reducible rfl
        rotate_left
        · simp only [Act.put, List.setIfInBounds_toArray, List.set_cons_zero, List.set_cons_succ, i64_w, i32_w]
          rfl
        refine pure_ (i := 4) (N := some 30) (v := ?_) (a' := ?_) #[true, true, true, false, true, false, false, false, false, false, false, false, false, false] rfl rfl (by kernel_rfl) (fun _ _ _ h => h) (Or.inl ⟨by rfl, ?_⟩) ?_ ?_
        rotate_left
        · intro w'
          go_simp
          with_reducible rfl
        rotate_left
        · simp only [Act.put, List.setIfInBounds_toArray, List.set_cons_zero, List.set_cons_succ, i64_w, i32_w]
          rfl
        refine pure_ (i := 5) (N := some 31) (v := ?_) (a' := ?_) #[true, true, true, false, true, true, false, false, false, false, false, false, false, false] rfl rfl (by kernel_rfl) (fun _ _ _ h => h) (Or.inl ⟨by rfl, ?_⟩) ?_ ?_
        rotate_left
        · intro w'
          go_simp
          with_reducible rfl
        rotate_left
        · simp only [Act.put, List.setIfInBounds_toArray, List.set_cons_zero, List.set_cons_succ, i64_w, i32_w]
          rfl
        refine take_ (i := 6) (N := some 32) (v := ?_) (a' := ?_) #[true, true, true, false, true, true, true, false, false, false, false, false, false, false] rfl rfl (by kernel_rfl) (fun _ _ _ h => h) (Or.inl ⟨by rfl, ?_⟩) hHeld ?_ ?_
        rotate_left
        · intro w' _
          go_simp
          with_reducible rfl
        rotate_left
        · simp only [Act.put, List.setIfInBounds_toArray, List.set_cons_zero, List.set_cons_succ, i64_w, i32_w]
          rfl
        refine join_ (σ := Nat × Value × Option Addr × Nat × Nat) 2 #[true, true, true, true, true, true, true, true, true, true, true, true, false, false] (fun s => [(29, .func (.func (modeF sk.mode)) #[.pointer (some ⟨b, 0, none⟩)] #[]), (33, .tuple #[.agg #[.int .i64 c2.kind, .slice s.2.2.1 s.2.2.2.1 s.2.2.2.2, .int .u32 c2.fl, .int .i64 c2.ex, .string c2.body, .bool c2.quiet, .string c2.reply], .bool tl]), (7, .pointer (some ⟨s.1, 0, none⟩)), (25, .tuple #[.agg #[.int .i64 c2.kind, .slice s.2.2.1 s.2.2.2.1 s.2.2.2.2, .int .u32 c2.fl, .int .i64 c2.ex, .string c2.body, .bool c2.quiet, .string c2.reply], .bool tl]), (34, .agg #[.int .i64 c2.kind, .slice s.2.2.1 s.2.2.2.1 s.2.2.2.2, .int .u32 c2.fl, .int .i64 c2.ex, .string c2.body, .bool c2.quiet, .string c2.reply]), (35, .bool tl)]) (fun s w' => FeedAt w' b s2 s.2.1 ∧ KeysAt w' (.slice s.2.2.1 s.2.2.2.1 s.2.2.2.2) c2.keys ∧ At w' s.1 #[.int .i64 0, .slice none 0 0, .int .u32 0, .int .i64 0, .string ⟨#[]⟩, .bool false, .string ⟨#[]⟩] 28 ∧ Out w' u5 out ∧ Turn b hv w w' ∧ Own hv s.2.1 w ∧ some s.1 ≠ u5.ownBlock ∧ w.heap.size ≤ s.1) ?_ ?_
        rotate_left
        · intro hCont
          refine two_ (i := 3) (j := 11) (Ni := some 29) (Nj := some 7) #[true, true, true, true, true, true, true, false, false, false, false, false, false, false] #[true, true, true, false, true, true, true, false, false, false, false, true, false, false] rfl rfl rfl rfl (by kernel_rfl) (by decide) (by decide) (fun K hK => ?_) (fun K hK => ?_)
          · skip
            have e3 := HE.out
            refine value_ (w1 := ?_) (v := ?_) (by rfl) rfl ?_ ?_
            rotate_left 2
            · go_simp
              constructor
              · rfl
              · rfl
            refine hK.out _ _ trivial (fun hHeld => ?_)
            clear hK K
            refine norm_ (a' := ?_) ?_ ?_
            rotate_left
            · show Act.put _ (some 29) _ = _
              simp only [Act.put, List.setIfInBounds_toArray, List.set_cons_zero, List.set_cons_succ, i64_w, i32_w]
              rfl
            refine two_ (i := 7) (j := 11) (Ni := some 33) (Nj := some 7) #[true, true, true, true, true, true, true, true, false, false, false, false, false, false] #[true, true, true, true, true, true, true, false, false, false, false, true, false, false] rfl rfl rfl rfl (by kernel_rfl) (by decide) (by decide) (fun K hK => ?_) (fun K hK => ?_)
            · skip
              obtain ⟨fn, m1, m2, m3⟩ := MF.out
              refine goes_val m1 m2 m3 #[.pointer (some ⟨b, 0, none⟩), .int .u8 x] (by rfl) rfl rfl (by rfl) (by simp only [List.map_toArray, List.map_cons, List.map_nil]; rfl) ?_
              with_reducible refine (STEP.out _ ?hF).mono ?_
              case hF => exact HF.out
              rintro e wB ⟨hv2, v, rfl, hkv, hf2, ht2, ho2⟩; obtain ⟨kA, kc, ek, -⟩ := Kd.Q_slice hkv; subst ek
              refine ⟨_, rfl, ?_⟩
              refine hK.out _ _ trivial (fun hHeld => ?_)
              clear hK K
              refine norm_ (a' := ?_) ?_ ?_
              rotate_left
              · show Act.put _ (some 33) _ = _
                simp only [Act.put, List.setIfInBounds_toArray, List.set_cons_zero, List.set_cons_succ, i64_w, i32_w]
                rfl
              refine pure_ (i := 8) (N := some 25) (v := ?_) (a' := ?_) #[true, true, true, true, true, true, true, true, true, false, false, false, false, false] rfl rfl (by kernel_rfl) (fun _ _ _ h => h) (Or.inl ⟨by rfl, ?_⟩) ?_ ?_
              rotate_left
              · intro w'
                go_simp
                with_reducible rfl
              rotate_left
              · simp only [Act.put, List.setIfInBounds_toArray, List.set_cons_zero, List.set_cons_succ, i64_w, i32_w]
                rfl
              refine pure_ (i := 9) (N := some 34) (v := ?_) (a' := ?_) #[true, true, true, true, true, true, true, true, true, true, false, false, false, false] rfl rfl (by kernel_rfl) (fun _ _ _ h => h) (Or.inl ⟨by rfl, ?_⟩) ?_ ?_
              rotate_left
              · intro w'
                go_simp
                with_reducible rfl
              rotate_left
              · simp only [Act.put, List.setIfInBounds_toArray, List.set_cons_zero, List.set_cons_succ, i64_w, i32_w]
                rfl
              refine pure_ (i := 10) (N := some 35) (v := ?_) (a' := ?_) #[true, true, true, true, true, true, true, true, true, true, true, false, false, false] rfl rfl (by kernel_rfl) (fun _ _ _ h => h) (Or.inl ⟨by rfl, ?_⟩) ?_ ?_
              rotate_left
              · intro w'
                go_simp
                with_reducible rfl
              rotate_left
              · simp only [Act.put, List.setIfInBounds_toArray, List.set_cons_zero, List.set_cons_succ, i64_w, i32_w]
                rfl
              refine one_ (i := 11) (N := some 7) #[true, true, true, true, true, true, true, true, true, true, true, true, false, false] rfl rfl (by kernel_rfl) (by decide) (fun K hK => ?_)
              refine value_ (w1 := ?_) (v := ?_) (by rfl) rfl ?_ ?_
              rotate_left 2
              · go_simp
                constructor
                · rfl
                · rfl
              refine hK.out _ _ trivial (fun hHeld => ?_)
              clear hK K
              refine norm_ (a' := ?_) ?_ ?_
              rotate_left
              · show Act.put _ (some 7) _ = _
                simp only [Act.put, List.setIfInBounds_toArray, List.set_cons_zero, List.set_cons_succ, i64_w, i32_w]
                rfl
              exact norm_ (by simp only [putAll, Act.put, List.setIfInBounds_toArray, List.set_cons_zero, List.set_cons_succ]) (hCont ⟨wB.heap.size, hv2, kA, c2.keys.length, kc⟩ _ ⟨feed_below hf2 (below_alloc (Below.refl _ _) (.cells #[.int .i64 0, .slice none 0 0, .int .u32 0, .int .i64 0, .string ⟨#[]⟩, .bool false, .string ⟨#[]⟩] 28)), keys_below hkv (below_alloc (Below.refl _ _) (.cells #[.int .i64 0, .slice none 0 0, .int .u32 0, .int .i64 0, .string ⟨#[]⟩, .bool false, .string ⟨#[]⟩] 28)), at_new wB _ _, out_below (out_turn HF.out HO.out ht2) (below_alloc (Below.refl _ _) (.cells #[.int .i64 0, .slice none 0 0, .int .u32 0, .int .i64 0, .string ⟨#[]⟩, .bool false, .string ⟨#[]⟩] 28)), turn_below (turn_trans HT.out HW.out ht2) (below_alloc (Below.refl _ _) (.cells #[.int .i64 0, .slice none 0 0, .int .u32 0, .int .i64 0, .string ⟨#[]⟩, .bool false, .string ⟨#[]⟩] 28)), own_trans HW.out ho2 HT.out.size, (fun e => by have := Kd.R_lt (out_turn HF.out HO.out ht2) _ e.symm; omega), Nat.le_trans HT.out.size ht2.size⟩)
            · skip
              refine value_ (w1 := ?_) (v := ?_) (by rfl) rfl ?_ ?_
              rotate_left 2
              · go_simp
                constructor
                · rfl
                · rfl
              have HEA := Lib.hid (show (w9.alloc (.cells #[.int .i64 0, .slice none 0 0, .int .u32 0, .int .i64 0, .string ⟨#[]⟩, .bool false, .string ⟨#[]⟩] 28)).cell? ⟨b, 0, none⟩ = some (.func (.func (modeF sk.mode)) #[.pointer (some ⟨b, 0, none⟩)] #[]) from by obtain ⟨_, ha, _⟩ := feed_below HF.out (below_alloc (Below.refl _ _) (.cells #[.int .i64 0, .slice none 0 0, .int .u32 0, .int .i64 0, .string ⟨#[]⟩, .bool false, .string ⟨#[]⟩] 28)); exact ha.cell 0)
              have HFA := Lib.hid (feed_below HF.out (below_alloc (Below.refl _ _) (.cells #[.int .i64 0, .slice none 0 0, .int .u32 0, .int .i64 0, .string ⟨#[]⟩, .bool false, .string ⟨#[]⟩] 28)))
              have HOA := Lib.hid (out_below HO.out (below_alloc (Below.refl _ _) (.cells #[.int .i64 0, .slice none 0 0, .int .u32 0, .int .i64 0, .string ⟨#[]⟩, .bool false, .string ⟨#[]⟩] 28)))
              have HTA := Lib.hid (turn_below HT.out (below_alloc (Below.refl _ _) (.cells #[.int .i64 0, .slice none 0 0, .int .u32 0, .int .i64 0, .string ⟨#[]⟩, .bool false, .string ⟨#[]⟩] 28)))
              have HZA := Lib.hid (at_new w9 #[.int .i64 0, .slice none 0 0, .int .u32 0, .int .i64 0, .string ⟨#[]⟩, .bool false, .string ⟨#[]⟩] 28)
              have hzA : w9.heap.size < (w9.alloc (.cells #[.int .i64 0, .slice none 0 0, .int .u32 0, .int .i64 0, .string ⟨#[]⟩, .bool false, .string ⟨#[]⟩] 28)).heap.size := by rw [World.size_alloc]; omega
              generalize w9.alloc (.cells #[.int .i64 0, .slice none 0 0, .int .u32 0, .int .i64 0, .string ⟨#[]⟩, .bool false, .string ⟨#[]⟩] 28) = wA at *
              refine hK.out _ _ trivial (fun hHeld => ?_)
              clear hK K
              refine norm_ (a' := ?_) ?_ ?_
              rotate_left
              · show Act.put _ (some 7) _ = _
                simp only [Act.put, List.setIfInBounds_toArray, List.set_cons_zero, List.set_cons_succ, i64_w, i32_w]
                rfl
              refine one_ (i := 7) (N := some 33) #[true, true, true, true, true, true, true, true, false, false, false, true, false, false] rfl rfl (by kernel_rfl) (by decide) (fun K hK => ?_)
              obtain ⟨fn, m1, m2, m3⟩ := MF.out
              refine goes_val m1 m2 m3 #[.pointer (some ⟨b, 0, none⟩), .int .u8 x] (by rfl) rfl rfl (by rfl) (by simp only [List.map_toArray, List.map_cons, List.map_nil]; rfl) ?_
              with_reducible refine (STEP.out _ ?hF).mono ?_
              case hF => exact HFA.out
              rintro e wB ⟨hv2, v, rfl, hkv, hf2, ht2, ho2⟩; obtain ⟨kA, kc, ek, -⟩ := Kd.Q_slice hkv; subst ek
              refine ⟨_, rfl, ?_⟩
              refine hK.out _ _ trivial (fun hHeld => ?_)
              clear hK K
              refine norm_ (a' := ?_) ?_ ?_
              rotate_left
              · show Act.put _ (some 33) _ = _
                simp only [Act.put, List.setIfInBounds_toArray, List.set_cons_zero, List.set_cons_succ, i64_w, i32_w]
                rfl
              refine pure_ (i := 8) (N := some 25) (v := ?_) (a' := ?_) #[true, true, true, true, true, true, true, true, true, false, false, true, false, false] rfl rfl (by kernel_rfl) (fun _ _ _ h => h) (Or.inl ⟨by rfl, ?_⟩) ?_ ?_
              rotate_left
              · intro w'
                go_simp
                with_reducible rfl
              rotate_left
              · simp only [Act.put, List.setIfInBounds_toArray, List.set_cons_zero, List.set_cons_succ, i64_w, i32_w]
                rfl
              refine pure_ (i := 9) (N := some 34) (v := ?_) (a' := ?_) #[true, true, true, true, true, true, true, true, true, true, false, true, false, false] rfl rfl (by kernel_rfl) (fun _ _ _ h => h) (Or.inl ⟨by rfl, ?_⟩) ?_ ?_
              rotate_left
              · intro w'
                go_simp
                with_reducible rfl
              rotate_left
              · simp only [Act.put, List.setIfInBounds_toArray, List.set_cons_zero, List.set_cons_succ, i64_w, i32_w]
                rfl
              refine pure_ (i := 10) (N := some 35) (v := ?_) (a' := ?_) #[true, true, true, true, true, true, true, true, true, true, true, true, false, false] rfl rfl (by kernel_rfl) (fun _ _ _ h => h) (Or.inl ⟨by rfl, ?_⟩) ?_ ?_
              rotate_left
              · intro w'
                go_simp
                with_reducible rfl
              rotate_left
              · simp only [Act.put, List.setIfInBounds_toArray, List.set_cons_zero, List.set_cons_succ, i64_w, i32_w]
                rfl
              exact norm_ (by simp only [putAll, Act.put, List.setIfInBounds_toArray, List.set_cons_zero, List.set_cons_succ]) (hCont ⟨w9.heap.size, hv2, kA, c2.keys.length, kc⟩ _ ⟨hf2, hkv, (turn_at HFA.out ht2 HZA.out (by decide) (by decide)).trans HZA.out, out_turn HFA.out HOA.out ht2, turn_trans HTA.out HW.out ht2, own_trans HW.out ho2 HTA.out.size, (fun e => by have := Kd.R_lt HO.out _ e.symm; omega), HT.out.size⟩)
          · skip
            refine value_ (w1 := ?_) (v := ?_) (by rfl) rfl ?_ ?_
            rotate_left 2
            · go_simp
              constructor
              · rfl
              · rfl
            have HEA := Lib.hid (show (w9.alloc (.cells #[.int .i64 0, .slice none 0 0, .int .u32 0, .int .i64 0, .string ⟨#[]⟩, .bool false, .string ⟨#[]⟩] 28)).cell? ⟨b, 0, none⟩ = some (.func (.func (modeF sk.mode)) #[.pointer (some ⟨b, 0, none⟩)] #[]) from by obtain ⟨_, ha, _⟩ := feed_below HF.out (below_alloc (Below.refl _ _) (.cells #[.int .i64 0, .slice none 0 0, .int .u32 0, .int .i64 0, .string ⟨#[]⟩, .bool false, .string ⟨#[]⟩] 28)); exact ha.cell 0)
            have HFA := Lib.hid (feed_below HF.out (below_alloc (Below.refl _ _) (.cells #[.int .i64 0, .slice none 0 0, .int .u32 0, .int .i64 0, .string ⟨#[]⟩, .bool false, .string ⟨#[]⟩] 28)))
            have HOA := Lib.hid (out_below HO.out (below_alloc (Below.refl _ _) (.cells #[.int .i64 0, .slice none 0 0, .int .u32 0, .int .i64 0, .string ⟨#[]⟩, .bool false, .string ⟨#[]⟩] 28)))
            have HTA := Lib.hid (turn_below HT.out (below_alloc (Below.refl _ _) (.cells #[.int .i64 0, .slice none 0 0, .int .u32 0, .int .i64 0, .string ⟨#[]⟩, .bool false, .string ⟨#[]⟩] 28)))
            have HZA := Lib.hid (at_new w9 #[.int .i64 0, .slice none 0 0, .int .u32 0, .int .i64 0, .string ⟨#[]⟩, .bool false, .string ⟨#[]⟩] 28)
            have hzA : w9.heap.size < (w9.alloc (.cells #[.int .i64 0, .slice none 0 0, .int .u32 0, .int .i64 0, .string ⟨#[]⟩, .bool false, .string ⟨#[]⟩] 28)).heap.size := by rw [World.size_alloc]; omega
            generalize w9.alloc (.cells #[.int .i64 0, .slice none 0 0, .int .u32 0, .int .i64 0, .string ⟨#[]⟩, .bool false, .string ⟨#[]⟩] 28) = wA at *
            refine hK.out _ _ trivial (fun hHeld => ?_)
            clear hK K
            refine norm_ (a' := ?_) ?_ ?_
            rotate_left
            · show Act.put _ (some 7) _ = _
              simp only [Act.put, List.setIfInBounds_toArray, List.set_cons_zero, List.set_cons_succ, i64_w, i32_w]
              rfl
            refine one_ (i := 3) (N := some 29) #[true, true, true, true, true, true, true, false, false, false, false, true, false, false] rfl rfl (by kernel_rfl) (by decide) (fun K hK => ?_)
            have e3 := HEA.out
            refine value_ (w1 := ?_) (v := ?_) (by rfl) rfl ?_ ?_
            rotate_left 2
            · go_simp
              constructor
              · rfl
              · rfl
            refine hK.out _ _ trivial (fun hHeld => ?_)
            clear hK K
            refine norm_ (a' := ?_) ?_ ?_
            rotate_left
            · show Act.put _ (some 29) _ = _
              simp only [Act.put, List.setIfInBounds_toArray, List.set_cons_zero, List.set_cons_succ, i64_w, i32_w]
              rfl
            refine one_ (i := 7) (N := some 33) #[true, true, true, true, true, true, true, true, false, false, false, true, false, false] rfl rfl (by kernel_rfl) (by decide) (fun K hK => ?_)
            obtain ⟨fn, m1, m2, m3⟩ := MF.out
            refine goes_val m1 m2 m3 #[.pointer (some ⟨b, 0, none⟩), .int .u8 x] (by rfl) rfl rfl (by rfl) (by simp only [List.map_toArray, List.map_cons, List.map_nil]; rfl) ?_
            with_reducible refine (STEP.out _ ?hF).mono ?_
            case hF => exact HFA.out
            rintro e wB ⟨hv2, v, rfl, hkv, hf2, ht2, ho2⟩; obtain ⟨kA, kc, ek, -⟩ := Kd.Q_slice hkv; subst ek
            refine ⟨_, rfl, ?_⟩
            refine hK.out _ _ trivial (fun hHeld => ?_)
            clear hK K
            refine norm_ (a' := ?_) ?_ ?_
            rotate_left
            · show Act.put _ (some 33) _ = _
              simp only [Act.put, List.setIfInBounds_toArray, List.set_cons_zero, List.set_cons_succ, i64_w, i32_w]
              rfl
            refine pure_ (i := 8) (N := some 25) (v := ?_) (a' := ?_) #[true, true, true, true, true, true, true, true, true, false, false, true, false, false] rfl rfl (by kernel_rfl) (fun _ _ _ h => h) (Or.inl ⟨by rfl, ?_⟩) ?_ ?_
            rotate_left
            · intro w'
              go_simp
              with_reducible rfl
            rotate_left
            · simp only [Act.put, List.setIfInBounds_toArray, List.set_cons_zero, List.set_cons_succ, i64_w, i32_w]
              rfl
            refine pure_ (i := 9) (N := some 34) (v := ?_) (a' := ?_) #[true, true, true, true, true, true, true, true, true, true, false, true, false, false] rfl rfl (by kernel_rfl) (fun _ _ _ h => h) (Or.inl ⟨by rfl, ?_⟩) ?_ ?_
            rotate_left
            · intro w'
              go_simp
              with_reducible rfl
            rotate_left
            · simp only [Act.put, List.setIfInBounds_toArray, List.set_cons_zero, List.set_cons_succ, i64_w, i32_w]
              rfl
            refine pure_ (i := 10) (N := some 35) (v := ?_) (a' := ?_) #[true, true, true, true, true, true, true, true, true, true, true, true, false, false] rfl rfl (by kernel_rfl) (fun _ _ _ h => h) (Or.inl ⟨by rfl, ?_⟩) ?_ ?_
            rotate_left
            · intro w'
              go_simp
              with_reducible rfl
            rotate_left
            · simp only [Act.put, List.setIfInBounds_toArray, List.set_cons_zero, List.set_cons_succ, i64_w, i32_w]
              rfl
            exact norm_ (by simp only [putAll, Act.put, List.setIfInBounds_toArray, List.set_cons_zero, List.set_cons_succ]) (hCont ⟨w9.heap.size, hv2, kA, c2.keys.length, kc⟩ _ ⟨hf2, hkv, (turn_at HFA.out ht2 HZA.out (by decide) (by decide)).trans HZA.out, out_turn HFA.out HOA.out ht2, turn_trans HTA.out HW.out ht2, own_trans HW.out ho2 HTA.out.size, (fun e => by have := Kd.R_lt HO.out _ e.symm; omega), HT.out.size⟩)
        rintro ⟨z, hv2, kA, kn, kc⟩ wD ⟨f1, f2, f3, f4, f5, f6, f7, f8⟩
        dsimp only at f1 f2 f3 f4 f5 f6 f7 f8
        have hHeld : True := trivial
        have HFD := Lib.hid f1
        have HKD := Lib.hid f2
        have HZD := Lib.hid f3
        have HOD := Lib.hid f4
        have HTD := Lib.hid f5
        have HWD := Lib.hid f6
        have hzo := f7
        have hzw := f8
        clear f1 f2 f3 f4 f5 f6 f7 f8 HF HO HT HW HE
        refine norm_ (a' := ?_) ?_ ?_
        rotate_left
        · simp only [putAll, Act.put, List.setIfInBounds_toArray, List.set_cons_zero, List.set_cons_succ]
          rfl
        refine one_ (i := 12) (N := none) #[true, true, true, true, true, true, true, true, true, true, true, true, true, false] rfl rfl (by kernel_rfl) (by decide) (fun K hK => ?_)
        obtain ⟨q0, q1, q2, q3, q4, q5, q6, r0, r1, r2, r3, r4, r5, r6⟩ := at7 (show At wD z #[.int .i64 0, .slice none 0 0, .int .u32 0, .int .i64 0, .string ⟨#[]⟩, .bool false, .string ⟨#[]⟩] 28 from HZD.out)
        refine skip_ (w1 := ?_) (by rfl) rfl ?_ ?_
        rotate_left
        · go_simp
          rfl
        refine hK.out _ _ trivial (fun hHeld => ?_)
        clear hK K
        refine pure_ (i := 13) (N := some 8) (v := ?_) (a' := ?_) #[true, true, true, true, true, true, true, true, true, true, true, true, true, true] rfl rfl (by kernel_rfl) (fun _ _ _ h => h) (Or.inl ⟨by rfl, ?_⟩) ?_ ?_
        rotate_left
        · intro w'
          go_simp
          with_reducible rfl
        rotate_left
        · simp only [Act.put, List.setIfInBounds_toArray, List.set_cons_zero, List.set_cons_succ, i64_w, i32_w]
          rfl
        refine done_ (by kernel_rfl) ?_
        have HZE := Lib.hid (at_put7 (a0 := .int .i64 c2.kind) (a1 := .slice kA kn kc) (a2 := .int .u32 c2.fl) (a3 := .int .i64 c2.ex) (a4 := .string c2.body) (a5 := .bool c2.quiet) (a6 := .string c2.reply) HZD.out)
        have kz : Chg (fun i => i = z) wD (((((((wD.setCell ⟨z, 0, none⟩ (.int .i64 c2.kind)).setCell ⟨z, 1, none⟩ (.slice kA kn kc)).setCell ⟨z, 2, none⟩ (.int .u32 c2.fl)).setCell ⟨z, 3, none⟩ (.int .i64 c2.ex)).setCell ⟨z, 4, none⟩ (.string c2.body)).setCell ⟨z, 5, none⟩ (.bool c2.quiet)).setCell ⟨z, 6, none⟩ (.string c2.reply)) := chg_set7 (chg_refl _ _)
        have HFE := Lib.hid (feed_res HFD.out HZD.out kz)
        have HKE := Lib.hid (keys_res HKD.out HZD.out (by decide) kz)
        have HOE := Lib.hid (out_res HOD.out HZD.out hzo kz)
        have HTE := Lib.hid (turn_new7 (y := z) (v0 := .int .i64 c2.kind) (v1 := .slice kA kn kc) (v2 := .int .u32 c2.fl) (v3 := .int .i64 c2.ex) (v4 := .string c2.body) (v5 := .bool c2.quiet) (v6 := .string c2.reply) HTD.out hzw)
        clear kz q0 q1 q2 q3 q4 q5 q6 r0 r1 r2 r3 r4 r5 r6 HZD HFD HKD HOD HTD c12 hxx
        generalize (((((((wD.setCell ⟨z, 0, none⟩ (.int .i64 c2.kind)).setCell ⟨z, 1, none⟩ (.slice kA kn kc)).setCell ⟨z, 2, none⟩ (.int .u32 c2.fl)).setCell ⟨z, 3, none⟩ (.int .i64 c2.ex)).setCell ⟨z, 4, none⟩ (.string c2.body)).setCell ⟨z, 5, none⟩ (.bool c2.quiet)).setCell ⟨z, 6, none⟩ (.string c2.reply)) = wE at *
        cases tl with
        | false =>
          go_wp2_with (fail)
          exact ⟨⟨k + 1, s2, hv2, out, by omega, by have := HY.out; go_num, Lib.hid HR2.out, Lib.hid (by have := HL.out; omega), HI2, HFE, HOE, HTE, HWD, HNW⟩, by have := HY.out; simp [intOf]; omega⟩
        | true =>
          obtain ⟨t0, t1, t2, t3, t4, t5, t6, -⟩ := at7 HZE.out
          go_wp2_with (((with_reducible refine gate_dst (N := 40) rfl ?_); refine Kd.R_append kC (w0 := wE) 0 (by rfl) (.tmp 37) (.tmp 39) 31 28 (.agg #[.int .i64 0, .slice none 0 0, .int .u32 0, .int .i64 0, .string ⟨#[]⟩, .bool false, .string ⟨#[]⟩]) 88 rfl Tryd.underlying31 infoC rfl (by decide) (by omega) u5 out c2 (cmL c2 (.slice kA kn kc)) (fun _ => True) (fun j => ∃ cells, wE.heap[j]? = some (Obj.cells cells 9 (0, 0))) rfl rfl ?aP ?aN ?aF ?aO ?aB ?aS ?aL ?_; (case aP => exact kC_mkM wE _ c2 (keys_str HKE.out)); (case aN => exact (fun j hj => ⟨trivial, by obtain ⟨cells, hc⟩ := hj; exact Kd.R_ne HOE.out hc (by decide)⟩)); (case aF => exact (fun _ _ => trivial)); (case aO => exact HOE.out); (case aB => exact Below.refl 0 _); (case aS => exact Nat.zero_le _); (case aL => have h8 := HL.out; have h9 := HS.out; omega); intro v1 w1 ho hb4 hg4 hat; have HF4 := Lib.hid (feed_out HFE.out HOE.out hg4); have HT4 := Lib.hid (turn_out HTE.out hg4 HNW.out); have HN4 := Lib.hid (new_app HNW.out hat HTE.out.size); have HO4 := Lib.hid (show Out w1 v1 (out ++ [c2]) from ho); clear ho hb4 hg4 hat))
          exact ⟨⟨k + 1, s2, hv2, out ++ [c2], by omega, by have := HY.out; go_num, Lib.hid HR2.out, Lib.hid (by have := HL.out; rw [List.length_append]; simp; omega), HI2, HF4, HO4, HT4, HWD, HN4⟩, by have := HY.out; simp [intOf]; omega⟩
    · obtain rfl : k = str.size := by omega
      have hres := HR.out
      rw [List.drop_of_length_le (by rw [bytesL_len]; exact Nat.le_refl _)] at hres
      have HRR := Lib.hid (show (sk, out) = R from hres)
      clear hres
      go_wp2_with (fail)
      go_ret
      rw [← HRR.out]
      exact ⟨_, hvk, rfl, HO, HF, HI, HT, HW, HNW⟩
theorem take_nil (str : ByteArray) (w : World) : Calls Tryd.prog 10 #[.pointer none, .string str] w fun e w' => e = .returned (.slice none 0 0) ∧ Below w.heap.size w w' := by
  go_enter Tryd.func10, Tryd.ntmps10
  go_wp2
  go_ret
  exact ⟨rfl, by repeat (first | exact Below.refl _ _ | apply pw_below_drewN | apply below_drew)⟩
end Go.Proofs.YthinmioognadpaaDoor.Feed

/- The chapter's example, and what it needs of Take (own text). -/
namespace Go.Proofs.YthinmioognadpaaDoor.Feed
open Go.RowKit Go.Proofs.YthinmioognadpaaDoor.Mem Go.Proofs.YthinmioognadpaaDoorW.PrintWords Go.Proofs.YthinmioognadpaaDoorW.PrintLast Go.Proofs.YthinmioognadpaaDoorW.PrintMore
set_option linter.unusedVariables false
set_option linter.unusedSimpArgs false
theorem kC_open {w : World} {c : Cm} {cs : List Value} (h : kC.K w c cs) : ∃ A cap, cs = cmL c (.slice A c.keys.length cap) := by
  obtain ⟨_, _, rfl, rfl, _, _, rfl, ⟨A, cap, rfl, _, _⟩, _, _, rfl, rfl, _, _, rfl, rfl, _, _, rfl, rfl, _, _, rfl, rfl, rfl⟩ := h
  exact ⟨A, cap, rfl⟩
/-- A row of one command. -/
theorem out_one {w : World} {v : Value} {c : Cm} (h : Out w v [c]) : ∃ g cap, v = .slice (some ⟨g, 0, none⟩) 1 cap ∧ 1 ≤ cap ∧ w.cell? ⟨g, 0, none⟩ = some (.int .i64 c.kind) ∧ w.cell? ⟨g, 4, none⟩ = some (.string c.body) ∧ g < w.heap.size := by
  obtain ⟨g, cap, rfl, _, hlt, _⟩ := Kd.R_form h (Nat.lt_succ_self 0)
  obtain ⟨_, hc, hr⟩ := Kd.R_reads' h
  refine ⟨g, cap, rfl, hc, ?_⟩
  obtain ⟨ad, cs, e, hl, hk, hcell⟩ := ReadsRow.get_ hr cm0 0 (Int.le_refl 0) (Int.ofNat_lt.2 (Nat.lt_succ_self 0))
  injection e with e
  subst e
  obtain ⟨A, cp, rfl⟩ := kC_open hk
  exact ⟨hcell 0 _ rfl, hcell 4 _ rfl, hlt⟩
theorem below_turn {w w1 w2 : World} {b : Nat} {hv : Value} (h : Below w.heap.size w w1) (k : Turn b hv w1 w2) (hb : w.heap.size ≤ b) (hn : New hv w) : Below w.heap.size w w2 :=
  ⟨k.os.trans h.os, k.tape.trans h.tape, k.output.trans h.output, Nat.le_trans h.size k.size, fun i hi => (k.block i (Nat.lt_of_lt_of_le hi h.size) (by
    rintro (e | e)
    · omega
    · have := hn i e.symm; omega)).trans (h.block i hi)⟩
theorem new_own {w W : World} {hv hv1 : Value} (h : New hv w) (o : Own hv hv1 W) (hs : w.heap.size ≤ W.heap.size) : New hv1 w := by
  intro j hj
  rcases o with e | ⟨b, e, hb⟩
  · exact h j (e.symm.trans hj)
  · rw [e] at hj; injection hj with hj; omega
def B1 : ByteArray := ⟨#[103, 101, 116, 32, 97, 13]⟩
def B2 : ByteArray := ⟨#[10, 115, 101, 116, 32, 98, 32, 48, 32, 48, 32, 50, 13, 10, 120]⟩
def B3 : ByteArray := ⟨#[121, 13, 10]⟩
def F1 : St := (takeA st0 [] (bytesL B1)).1
def F2 : St := (takeA F1 [] (bytesL B2)).1
theorem t1 : (takeA st0 [] (bytesL B1)).2 = [] := by kernel_rfl
theorem t2 : (takeA F1 [] (bytesL B2)).2 = [⟨1, [⟨#[97]⟩], 0, 0, ⟨#[]⟩, false, ⟨#[]⟩⟩] := by kernel_rfl
theorem t3 : (takeA F2 [] (bytesL B3)).2 = [⟨2, [⟨#[98]⟩], 0, 0, ⟨#[120, 121]⟩, false, ⟨#[]⟩⟩] := by kernel_rfl
theorem take1 (b : Nat) (hv : Value) (w : World) (h : FeedAt w b st0 hv) : Calls Tryd.prog 10 #[.pointer (some ⟨b, 0, none⟩), .string ⟨#[103, 101, 116, 32, 97, 13]⟩] w fun e w' => ∃ A c hv', e = .returned (.slice A 0 c) ∧ FeedAt w' b F1 hv' ∧ Inv F1 ∧ Turn b hv w w' ∧ Own hv hv' w := by
  refine (take_any b st0 hv B1 w h inv0 (by decide)).mono ?_
  rintro e w' ⟨v, hv', rfl, ho, hf, hi, ht, hw, _⟩
  have h1 := ho.out
  rw [t1] at h1
  obtain ⟨A, c, rfl⟩ := Kd.R_slice h1
  exact ⟨A, c, hv', rfl, hf.out, hi.out, ht.out, hw.out⟩
theorem take2 (b : Nat) (hv : Value) (w : World) (h : FeedAt w b F1 hv) (hi : Inv F1) : Calls Tryd.prog 10 #[.pointer (some ⟨b, 0, none⟩), .string ⟨#[10, 115, 101, 116, 32, 98, 32, 48, 32, 48, 32, 50, 13, 10, 120]⟩] w fun e w' => ∃ v g cap hv', v = .slice (some ⟨g, 0, none⟩) 1 cap ∧ e = .returned v ∧ Out w' v [⟨1, [⟨#[97]⟩], 0, 0, ⟨#[]⟩, false, ⟨#[]⟩⟩] ∧ FeedAt w' b F2 hv' ∧ Inv F2 ∧ Turn b hv w w' ∧ Own hv hv' w := by
  refine (take_any b F1 hv B2 w h hi (by decide)).mono ?_
  rintro e w' ⟨v, hv', rfl, ho, hf, hi, ht, hw, _⟩
  have h1 := ho.out
  rw [t2] at h1
  obtain ⟨g, cap, e, _⟩ := out_one h1
  exact ⟨v, g, cap, hv', e, rfl, h1, hf.out, hi.out, ht.out, hw.out⟩
theorem take3 (b : Nat) (hv v1 : Value) (w : World) (h : FeedAt w b F2 hv) (hi : Inv F2) (g1 cap1 : Nat) (ev : v1 = .slice (some ⟨g1, 0, none⟩) 1 cap1) (h1 : Out w v1 [⟨1, [⟨#[97]⟩], 0, 0, ⟨#[]⟩, false, ⟨#[]⟩⟩]) : Calls Tryd.prog 10 #[.pointer (some ⟨b, 0, none⟩), .string ⟨#[121, 13, 10]⟩] w fun e w' => ∃ g cap, e = .returned (.slice (some ⟨g, 0, none⟩) 1 cap) ∧ w'.cell? ⟨g1, 0, none⟩ = some (.int .i64 1) ∧ w'.cell? ⟨g, 0, none⟩ = some (.int .i64 2) ∧ w'.cell? ⟨g, 4, none⟩ = some (.string ⟨#[120, 121]⟩) ∧ Turn b hv w w' := by
  refine (take_any b F2 hv B3 w h hi (by decide)).mono ?_
  rintro e w' ⟨v, hv', rfl, ho, hf, hi, ht, hw, _⟩
  have h2 := ho.out
  rw [t3] at h2
  obtain ⟨g, cap, rfl, _, x0, x4, _⟩ := out_one h2
  obtain ⟨g1', cap1', e1, _, y0, _, _⟩ := out_one (out_turn h h1 ht.out)
  rw [ev] at e1
  injection e1 with e1
  injection e1 with e1
  injection e1 with e1
  subst e1
  exact ⟨g, cap, rfl, y0, x0, x4, ht.out⟩
set_option maxRecDepth 100000 in
set_option maxHeartbeats 3200000 in
theorem fixed_any (w : World) : Calls Tryd.prog 7 #[] w fun e w' => e = .returned (.bool true) ∧ Below w.heap.size w w' := by
  go_enter Tryd.func7, Tryd.ntmps7
  have CN := Lib.hid (fun w => new_any w)
  go_upto_region 2 with ((with_reducible refine (CN.out _).mono ?_); rintro e w1 ⟨rfl, hf1, hb1⟩)
  have T1 := Lib.hid (take1 _ _ w1 hf1)
  have HB1 := Lib.hid hb1
  have hs1 := hb1.size
  clear hf1 hb1
  go_upto_region 5 with ((with_reducible refine (T1.out).mono ?_); rintro e w2 ⟨A2, c2, hv2, rfl, hf2, hi2, ht2, hw2⟩)
  have T2 := Lib.hid (take2 _ _ w2 hf2 hi2)
  have HB2 := Lib.hid (below_turn HB1.out ht2 (Nat.le_refl _) (new_nil w))
  have HN2 := Lib.hid (new_own (new_nil w) hw2 hs1)
  have hs2 := HB2.out.size
  clear hf2 hi2 ht2 hw2 T1 HB1
  go_upto_region 6 with ((with_reducible refine (T2.out).mono ?_); rintro e w3 ⟨v3, g3, cap3, hv3, ev3, rfl, ho3, hf3, hi3, ht3, hw3⟩)
  have T3 := Lib.hid (take3 _ _ _ w3 hf3 hi3 g3 cap3 ev3 ho3)
  have HB3 := Lib.hid (below_turn HB2.out ht3 (Nat.le_refl _) HN2.out)
  have HN3 := Lib.hid (new_own HN2.out hw3 hs2)
  have hc3 : 1 ≤ cap3 := by obtain ⟨_, _, e, h, _⟩ := out_one ho3; rw [ev3] at e; injection e with _ _ e; omega
  clear hf3 hi3 ht3 hw3 T2 HB2 HN2 ho3
  subst ev3
  go_upto_region 7 with ((with_reducible refine (T3.out).mono ?_); rintro e w4 ⟨g4, cap4, rfl, x0, x1, x2, ht4⟩)
  have HB4 := Lib.hid (below_turn HB3.out ht4 (Nat.le_refl _) HN3.out)
  clear ht4 T3 HB3 HN3
  go_wp2_with (fail)
  go_ret
  exact ⟨rfl, by repeat (first | exact HB4.out | apply pw_below_drewN | apply below_drew)⟩
end Go.Proofs.YthinmioognadpaaDoor.Feed

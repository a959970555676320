/- Merged of FeedMem, FeedPass, FeedData (own text; wip/tools/merge.py). -/
import Derived.Test.YthinmioognadpaaDoorCmdB
import Derived.Test.YthinmioognadpaaDoorMem
import Derived.Laws.EntriesVeiled
import Derived.Test.YthinmioognadpaaDoorSets
import Derived.Deep.Cut
/- A feed in memory: its struct, the row of bytes that it holds, its command's keys (own text). -/
namespace Go.Proofs.YthinmioognadpaaDoor.Feed
open Go.RowKit Go.Proofs.YthinmioognadpaaDoor.Mem Go.Proofs.YthinmioognadpaaDoorW.PrintWords Go.Proofs.YthinmioognadpaaDoorW.PrintLast Go.Proofs.YthinmioognadpaaDoorW.PrintMore
set_option linter.unusedVariables false
set_option linter.unusedSimpArgs false
/-- A command. -/
structure Cm where
  kind : Int
  keys : List ByteArray
  fl : Int
  ex : Int
  body : ByteArray
  quiet : Bool
  reply : ByteArray
def cm0 : Cm := ⟨0, [], 0, 0, ⟨#[]⟩, false, ⟨#[]⟩⟩
/-- A feed: what it reads next (0: a line, 1: a line that is passed, 2: data, 3: its tail), what it holds. -/
structure St where
  mode : Nat
  held : List Int
  c : Cm
  left : Int
  tail : Int
  cr : Bool
  over : Bool
def st0 : St := ⟨0, [], cm0, 0, 0, false, false⟩
def modeF : Nat → Nat
  | 0 => 14
  | 1 => 21
  | 2 => 24
  | _ => 25
def KeysAt (w : World) (v : Value) (ks : List ByteArray) : Prop := Kd.Q Kd.string 9 w 0 (fun _ => True) v ks
def feedA (b : Nat) (s : St) (hv kv : Value) : Array Value := #[.func (.func (modeF s.mode)) #[.pointer (some ⟨b, 0, none⟩)] #[], hv, .int .i64 s.c.kind, kv, .int .u32 s.c.fl, .int .i64 s.c.ex, .string s.c.body, .bool s.c.quiet, .string s.c.reply, .int .i64 s.left, .int .i64 s.tail, .bool s.cr, .bool s.over]
def FeedAt (w : World) (b : Nat) (s : St) (hv : Value) : Prop := ∃ kv, At w b (feedA b s hv kv) 42 ∧ (Kd.int .u8).R 5 w 0 (fun _ => True) hv s.held ∧ KeysAt w kv s.c.keys
def cmV (c : Cm) (v : Value) : Value := .agg #[.int .i64 c.kind, v, .int .u32 c.fl, .int .i64 c.ex, .string c.body, .bool c.quiet, .string c.reply]
/-- What may turn: the feed's struct, the row that it holds. -/
def Turn (b : Nat) (hv : Value) (w w' : World) : Prop := Chg (fun i => i = b ∨ some i = hv.ownBlock) w w'
theorem turn_refl (b : Nat) (hv : Value) (w : World) : Turn b hv w w := chg_refl _ w
theorem turn_below {b : Nat} {hv : Value} {w w1 w2 : World} (h : Turn b hv w w1) (k : Below w1.heap.size w1 w2) : Turn b hv w w2 := chg_below h k
theorem turn_set {b i : Nat} {hv v : Value} {w w1 : World} (h : Turn b hv w w1) : Turn b hv w (w1.setCell ⟨b, i, none⟩ v) := chg_set h (.inl rfl)
theorem turn_new {b b' i : Nat} {hv v : Value} {w w1 : World} (h : Turn b hv w w1) (hb : w.heap.size ≤ b') : Turn b hv w (w1.setCell ⟨b', i, none⟩ v) := chg_set_new h hb
theorem turn_grown {b : Nat} {hv : Value} {w w1 w2 : World} (h : Turn b hv w w1) (k : w1.grownBy w2 hv.ownBlock) : Turn b hv w w2 :=
  ⟨k.os.trans h.os, k.tape.trans h.tape, k.output.trans h.output, Nat.le_trans h.size k.size, fun i hi hs => (k.block i (Nat.lt_of_lt_of_le hi h.size) (fun e => hs (.inr e))).trans (h.block i hi hs)⟩
theorem keys_nil (w : World) : KeysAt w (.slice none 0 0) [] := Kd.Q_nil _ _ _ _ _
theorem keys_below {w w' : World} {v : Value} {ks : List ByteArray} (h : KeysAt w v ks) (hb : Below w.heap.size w w') : KeysAt w' v ks :=
  Kd.Q_mono (Kd.Q_move (Kd.Q_bound h) (fun k hk => hb.block k hk.2.2.1)) (fun _ _ => trivial)
/-- Keys stand as they are while blocks of other types turn. -/
theorem keys_keep {w w' : World} {v : Value} {ks : List ByteArray} (h : KeysAt w v ks) (hk : ∀ (k : Nat) (cells : Array Value), w.heap[k]? = some (Obj.cells cells 9 (0, 0)) → w'.heap[k]? = w.heap[k]?) : KeysAt w' v ks := by
  refine Kd.Q_mono (Kd.Q_move (Kd.Q_bound h) (fun k hq => ?_)) (fun _ _ => trivial)
  obtain ⟨_, _, _, q, hq, cells, hc⟩ := hq
  have e : q = 9 := by
    have : q ∈ [(9 : Nat)] := hq
    simpa using this
  subst e
  exact hk k cells hc
theorem feed_lt {w : World} {b : Nat} {s : St} {hv : Value} (h : FeedAt w b s hv) : b < w.heap.size := by
  obtain ⟨kv, ha, _⟩ := h
  exact ha.lt
theorem keys_turn {w w' : World} {b : Nat} {s : St} {hv v : Value} {ks : List ByteArray} (hf : FeedAt w b s hv) (h : KeysAt w v ks) (k : Turn b hv w w') : KeysAt w' v ks := by
  obtain ⟨kv, ha, hr, _⟩ := hf
  refine keys_keep h (fun i cells hc => k.block i (Array.getElem?_eq_some_iff.1 hc).1 ?_)
  rintro (rfl | e)
  · unfold At at ha
    rw [hc] at ha
    injection ha with ha
    injection ha with _ ht
    cases ht
  · obtain ⟨cells', hc'⟩ := Kd.R_typed hr i e.symm
    rw [hc] at hc'
    injection hc' with hc'
    injection hc' with _ ht
    cases ht
theorem blk_at {W : World} {g : Nat} {o : Obj} (hg : W.heap.size = g) : (W.alloc o).heap[g]? = some o := by
  subst hg; exact blk_new W o
theorem own_ne {w : World} {b : Nat} {s : St} {hv kv : Value} (ha : At w b (feedA b s hv kv) 42) (hr : (Kd.int .u8).R 5 w 0 (fun _ => True) hv s.held) : some b ≠ hv.ownBlock := by
  intro e
  obtain ⟨cells', hc'⟩ := Kd.R_typed hr b e.symm
  unfold At at ha
  rw [ha] at hc'
  injection hc' with hc'
  injection hc' with _ ht
  cases ht
theorem keys_own {w : World} {b : Nat} {s : St} {hv kv : Value} {k : Nat} {cells : Array Value} (ha : At w b (feedA b s hv kv) 42) (hc : w.heap[k]? = some (Obj.cells cells 9 (0, 0))) : k ≠ b := by
  intro e
  subst e
  unfold At at ha
  rw [ha] at hc
  injection hc with hc
  injection hc with _ ht
  cases ht
/-- The struct alone has turned. -/
theorem feed_upd {w W : World} {b : Nat} {s s' : St} {hv kv : Value} (ha : At w b (feedA b s hv kv) 42) (hr : (Kd.int .u8).R 5 w 0 (fun _ => True) hv s.held) (hk : KeysAt w kv s.c.keys)
    (k : Chg (fun i => i = b) w W) (ha' : At W b (feedA b s' hv kv) 42) (e1 : s'.held = s.held) (e2 : s'.c.keys = s.c.keys) : FeedAt W b s' hv := by
  refine ⟨kv, ha', ?_, ?_⟩
  · rw [e1]
    exact Kd.R_mono (Kd.R_step (Kd.R_tight rfl hr) (fun j hj hlt => k.block j hlt (fun e => own_ne ha hr (by rw [← e]; exact hj)))) (fun _ _ => trivial)
  · rw [e2]
    exact keys_keep hk (fun j cells hc => k.block j (Array.getElem?_eq_some_iff.1 hc).1 (keys_own ha hc))
theorem chg_turn {b : Nat} {hv : Value} {w W : World} (k : Chg (fun i => i = b) w W) : Turn b hv w W :=
  ⟨k.os, k.tape, k.output, k.size, fun i hi hs => k.block i hi (fun e => hs (.inl e))⟩
/-- A result's block turns: the feed stands as it is. -/
theorem feed_res {w W : World} {b y : Nat} {s : St} {hv : Value} {cs : Array Value} (h : FeedAt w b s hv) (hy : At w y cs 28) (k : Chg (fun i => i = y) w W) : FeedAt W b s hv := by
  obtain ⟨kv, ha, hr, hk⟩ := h
  unfold At at hy
  refine ⟨kv, (k.block b ha.lt (fun e => ?_)).trans ha, Kd.R_mono (Kd.R_step (Kd.R_tight rfl hr) (fun j hj hlt => k.block j hlt (fun e => ?_))) (fun _ _ => trivial), keys_keep hk (fun j cells hc => k.block j (Array.getElem?_eq_some_iff.1 hc).1 (fun e => ?_))⟩
  · unfold At at ha
    rw [e, hy] at ha
    injection ha with ha
    injection ha with _ ht
    cases ht
  · obtain ⟨cells', hc'⟩ := Kd.R_typed hr j hj.symm
    rw [e, hy] at hc'
    injection hc' with hc'
    injection hc' with _ ht
    cases ht
  · rw [e, hy] at hc
    injection hc with hc
    injection hc with _ ht
    cases ht
theorem keys_res {w W : World} {y : Nat} {v : Value} {ks : List ByteArray} {cs : Array Value} {t : TypeId} (h : KeysAt w v ks) (hy : At w y cs t) (ht : t ≠ 9) (k : Chg (fun i => i = y) w W) : KeysAt W v ks := by
  unfold At at hy
  refine keys_keep h (fun j cells hc => k.block j (Array.getElem?_eq_some_iff.1 hc).1 (fun e => ?_))
  rw [e, hy] at hc
  injection hc with hc
  injection hc with _ h2
  exact ht h2
theorem feed_below {w w' : World} {b : Nat} {s : St} {hv : Value} (h : FeedAt w b s hv) (k : Below w.heap.size w w') : FeedAt w' b s hv := by
  obtain ⟨kv, ha, hr, hk⟩ := h
  exact ⟨kv, at_below ha k, Kd.R_below hr k, keys_below hk k⟩
theorem at_ne7 {w : World} {b y : Nat} {cs : Array Value} {t : TypeId} {v0 v1 v2 v3 v4 v5 v6 : Value} (h : At w b cs t) (hne : b ≠ y) : At (((((((w.setCell ⟨y, 0, none⟩ v0).setCell ⟨y, 1, none⟩ v1).setCell ⟨y, 2, none⟩ v2).setCell ⟨y, 3, none⟩ v3).setCell ⟨y, 4, none⟩ v4).setCell ⟨y, 5, none⟩ v5).setCell ⟨y, 6, none⟩ v6) b cs t :=
  at_set_ne (at_set_ne (at_set_ne (at_set_ne (at_set_ne (at_set_ne (at_set_ne h hne) hne) hne) hne) hne) hne) hne
/-- The feed once its command and what it held are struck. -/
theorem feed_strike {w : World} {b : Nat} {s : St} {A : Option Addr} {n c : Nat} (h : FeedAt w b s (.slice A n c)) (hcut : (Kd.int .u8).R 5 w 0 (fun _ => True) (.slice A 0 c) []) (hown : (Value.slice A 0 c).ownBlock = (Value.slice A n c).ownBlock) {v1 v2 v3 v4 v5 v6 v7 : Value}
    (e1 : v1 = .int .i64 0) (e2 : v2 = .slice none 0 0) (e3 : v3 = .int .u32 0) (e4 : v4 = .int .i64 0) (e5 : v5 = .string ⟨#[]⟩) (e6 : v6 = .bool false) (e7 : v7 = .string ⟨#[]⟩) :
    FeedAt ((((((((w.setCell ⟨b, 1, none⟩ (.slice A 0 c)).setCell ⟨b, 2, none⟩ v1).setCell ⟨b, 3, none⟩ v2).setCell ⟨b, 4, none⟩ v3).setCell ⟨b, 5, none⟩ v4).setCell ⟨b, 6, none⟩ v5).setCell ⟨b, 7, none⟩ v6).setCell ⟨b, 8, none⟩ v7) b { s with held := [], c := cm0 } (.slice A 0 c) := by
  subst e1 e2 e3 e4 e5 e6 e7
  obtain ⟨kv, ha, hr, hk⟩ := h
  have kc : Chg (fun i => i = b) w ((((((((w.setCell ⟨b, 1, none⟩ (.slice A 0 c)).setCell ⟨b, 2, none⟩ (.int .i64 0)).setCell ⟨b, 3, none⟩ (.slice none 0 0)).setCell ⟨b, 4, none⟩ (.int .u32 0)).setCell ⟨b, 5, none⟩ (.int .i64 0)).setCell ⟨b, 6, none⟩ (.string ⟨#[]⟩)).setCell ⟨b, 7, none⟩ (.bool false)).setCell ⟨b, 8, none⟩ (.string ⟨#[]⟩)) :=
    chg_set (chg_set (chg_set (chg_set (chg_set (chg_set (chg_set (chg_set (chg_refl _ _) rfl) rfl) rfl) rfl) rfl) rfl) rfl) rfl
  have a1 : At (w.setCell ⟨b, 1, none⟩ (.slice A 0 c)) b #[.func (.func (modeF s.mode)) #[.pointer (some ⟨b, 0, none⟩)] #[], .slice A 0 c, .int .i64 s.c.kind, kv, .int .u32 s.c.fl, .int .i64 s.c.ex, .string s.c.body, .bool s.c.quiet, .string s.c.reply, .int .i64 s.left, .int .i64 s.tail, .bool s.cr, .bool s.over] 42 := at_set' ha rfl
  have a2 : At ((w.setCell ⟨b, 1, none⟩ (.slice A 0 c)).setCell ⟨b, 2, none⟩ (.int .i64 0)) b #[.func (.func (modeF s.mode)) #[.pointer (some ⟨b, 0, none⟩)] #[], .slice A 0 c, .int .i64 0, kv, .int .u32 s.c.fl, .int .i64 s.c.ex, .string s.c.body, .bool s.c.quiet, .string s.c.reply, .int .i64 s.left, .int .i64 s.tail, .bool s.cr, .bool s.over] 42 := at_set' a1 rfl
  have a3 : At (((w.setCell ⟨b, 1, none⟩ (.slice A 0 c)).setCell ⟨b, 2, none⟩ (.int .i64 0)).setCell ⟨b, 3, none⟩ (.slice none 0 0)) b #[.func (.func (modeF s.mode)) #[.pointer (some ⟨b, 0, none⟩)] #[], .slice A 0 c, .int .i64 0, .slice none 0 0, .int .u32 s.c.fl, .int .i64 s.c.ex, .string s.c.body, .bool s.c.quiet, .string s.c.reply, .int .i64 s.left, .int .i64 s.tail, .bool s.cr, .bool s.over] 42 := at_set' a2 rfl
  have a4 : At ((((w.setCell ⟨b, 1, none⟩ (.slice A 0 c)).setCell ⟨b, 2, none⟩ (.int .i64 0)).setCell ⟨b, 3, none⟩ (.slice none 0 0)).setCell ⟨b, 4, none⟩ (.int .u32 0)) b #[.func (.func (modeF s.mode)) #[.pointer (some ⟨b, 0, none⟩)] #[], .slice A 0 c, .int .i64 0, .slice none 0 0, .int .u32 0, .int .i64 s.c.ex, .string s.c.body, .bool s.c.quiet, .string s.c.reply, .int .i64 s.left, .int .i64 s.tail, .bool s.cr, .bool s.over] 42 := at_set' a3 rfl
  have a5 : At (((((w.setCell ⟨b, 1, none⟩ (.slice A 0 c)).setCell ⟨b, 2, none⟩ (.int .i64 0)).setCell ⟨b, 3, none⟩ (.slice none 0 0)).setCell ⟨b, 4, none⟩ (.int .u32 0)).setCell ⟨b, 5, none⟩ (.int .i64 0)) b #[.func (.func (modeF s.mode)) #[.pointer (some ⟨b, 0, none⟩)] #[], .slice A 0 c, .int .i64 0, .slice none 0 0, .int .u32 0, .int .i64 0, .string s.c.body, .bool s.c.quiet, .string s.c.reply, .int .i64 s.left, .int .i64 s.tail, .bool s.cr, .bool s.over] 42 := at_set' a4 rfl
  have a6 : At ((((((w.setCell ⟨b, 1, none⟩ (.slice A 0 c)).setCell ⟨b, 2, none⟩ (.int .i64 0)).setCell ⟨b, 3, none⟩ (.slice none 0 0)).setCell ⟨b, 4, none⟩ (.int .u32 0)).setCell ⟨b, 5, none⟩ (.int .i64 0)).setCell ⟨b, 6, none⟩ (.string ⟨#[]⟩)) b #[.func (.func (modeF s.mode)) #[.pointer (some ⟨b, 0, none⟩)] #[], .slice A 0 c, .int .i64 0, .slice none 0 0, .int .u32 0, .int .i64 0, .string ⟨#[]⟩, .bool s.c.quiet, .string s.c.reply, .int .i64 s.left, .int .i64 s.tail, .bool s.cr, .bool s.over] 42 := at_set' a5 rfl
  have a7 : At (((((((w.setCell ⟨b, 1, none⟩ (.slice A 0 c)).setCell ⟨b, 2, none⟩ (.int .i64 0)).setCell ⟨b, 3, none⟩ (.slice none 0 0)).setCell ⟨b, 4, none⟩ (.int .u32 0)).setCell ⟨b, 5, none⟩ (.int .i64 0)).setCell ⟨b, 6, none⟩ (.string ⟨#[]⟩)).setCell ⟨b, 7, none⟩ (.bool false)) b #[.func (.func (modeF s.mode)) #[.pointer (some ⟨b, 0, none⟩)] #[], .slice A 0 c, .int .i64 0, .slice none 0 0, .int .u32 0, .int .i64 0, .string ⟨#[]⟩, .bool false, .string s.c.reply, .int .i64 s.left, .int .i64 s.tail, .bool s.cr, .bool s.over] 42 := at_set' a6 rfl
  have a8 : At ((((((((w.setCell ⟨b, 1, none⟩ (.slice A 0 c)).setCell ⟨b, 2, none⟩ (.int .i64 0)).setCell ⟨b, 3, none⟩ (.slice none 0 0)).setCell ⟨b, 4, none⟩ (.int .u32 0)).setCell ⟨b, 5, none⟩ (.int .i64 0)).setCell ⟨b, 6, none⟩ (.string ⟨#[]⟩)).setCell ⟨b, 7, none⟩ (.bool false)).setCell ⟨b, 8, none⟩ (.string ⟨#[]⟩)) b #[.func (.func (modeF s.mode)) #[.pointer (some ⟨b, 0, none⟩)] #[], .slice A 0 c, .int .i64 0, .slice none 0 0, .int .u32 0, .int .i64 0, .string ⟨#[]⟩, .bool false, .string ⟨#[]⟩, .int .i64 s.left, .int .i64 s.tail, .bool s.cr, .bool s.over] 42 := at_set' a7 rfl
  refine ⟨.slice none 0 0, a8, Kd.R_mono (Kd.R_step (Kd.R_tight rfl hcut) (fun j hj hlt => kc.block j hlt (fun e => ?_))) (fun _ _ => trivial), keys_nil _⟩
  exact own_ne ha hr (by rw [← hown, ← e]; exact hj)
theorem chg_set7 {y : Nat} {w W : World} {v0 v1 v2 v3 v4 v5 v6 : Value} (h : Chg (fun i => i = y) w W) : Chg (fun i => i = y) w (((((((W.setCell ⟨y, 0, none⟩ v0).setCell ⟨y, 1, none⟩ v1).setCell ⟨y, 2, none⟩ v2).setCell ⟨y, 3, none⟩ v3).setCell ⟨y, 4, none⟩ v4).setCell ⟨y, 5, none⟩ v5).setCell ⟨y, 6, none⟩ v6) :=
  chg_set (chg_set (chg_set (chg_set (chg_set (chg_set (chg_set h rfl) rfl) rfl) rfl) rfl) rfl) rfl
theorem turn_new7 {b y : Nat} {hv : Value} {w W : World} {v0 v1 v2 v3 v4 v5 v6 : Value} (h : Turn b hv w W) (hy : w.heap.size ≤ y) : Turn b hv w (((((((W.setCell ⟨y, 0, none⟩ v0).setCell ⟨y, 1, none⟩ v1).setCell ⟨y, 2, none⟩ v2).setCell ⟨y, 3, none⟩ v3).setCell ⟨y, 4, none⟩ v4).setCell ⟨y, 5, none⟩ v5).setCell ⟨y, 6, none⟩ v6) :=
  turn_new (turn_new (turn_new (turn_new (turn_new (turn_new (turn_new h hy) hy) hy) hy) hy) hy) hy
theorem at_put7 {w : World} {y : Nat} {t : TypeId} {c0 c1 c2 c3 c4 c5 c6 a0 a1 a2 a3 a4 a5 a6 : Value} (h : At w y #[c0, c1, c2, c3, c4, c5, c6] t) :
    At (((((((w.setCell ⟨y, 0, none⟩ a0).setCell ⟨y, 1, none⟩ a1).setCell ⟨y, 2, none⟩ a2).setCell ⟨y, 3, none⟩ a3).setCell ⟨y, 4, none⟩ a4).setCell ⟨y, 5, none⟩ a5).setCell ⟨y, 6, none⟩ a6) y #[a0, a1, a2, a3, a4, a5, a6] t := Cmd.put7 h
/-- What a step ends in: the command, whether it is told, the feed behind it. -/
def StepsTo (b : Nat) (hv : Value) (w : World) (s' : St) (c : Cm) (told : Bool) (e : Ending) (w' : World) : Prop :=
  ∃ hv' v, e = .returned (.tuple #[cmV c v, .bool told]) ∧ KeysAt w' v c.keys ∧ FeedAt w' b s' hv' ∧ Turn b hv w w' ∧ (hv'.ownBlock = hv.ownBlock ∨ ∃ k, hv'.ownBlock = some k ∧ w.heap.size ≤ k)
def Z7 : Array Value := #[.int .i64 0, .slice none 0 0, .int .u32 0, .int .i64 0, .string ⟨#[]⟩, .bool false, .string ⟨#[]⟩]
end Go.Proofs.YthinmioognadpaaDoor.Feed

/- pass and data: one byte of a line that is passed, of data (own text). -/
namespace Go.Proofs.YthinmioognadpaaDoor.Feed
open Go.RowKit Go.Proofs.YthinmioognadpaaDoor.Mem Go.Proofs.YthinmioognadpaaDoorW.PrintWords Go.Proofs.YthinmioognadpaaDoorW.PrintLast Go.Proofs.YthinmioognadpaaDoorW.PrintMore
set_option linter.unusedVariables false
set_option linter.unusedSimpArgs false
theorem modeSet (b : Nat) (s : St) (hv kv : Value) (m : Nat) : (feedA b s hv kv).setIfInBounds 0 (.func (.func (modeF m)) #[.pointer (some ⟨b, 0, none⟩)] #[]) = feedA b { s with mode := m } hv kv := rfl
def passS (s : St) (x : Int) : St := if x = 10 then { s with mode := 0 } else s
set_option maxRecDepth 100000 in
set_option maxHeartbeats 3200000 in
theorem pass_nl (b : Nat) (s : St) (hv : Value) (w : World) (h : FeedAt w b s hv) :
    Calls Tryd.prog 21 #[.pointer (some ⟨b, 0, none⟩), .int .u8 10] w (StepsTo b hv w { s with mode := 0 } cm0 false) := by
  obtain ⟨kv, ha, hr, hk⟩ := h
  have f0 := ha.free 0
  have c0 := ha.cell 0
  have hb := ha.lt
  have HA := Lib.hid ha
  have HR := Lib.hid hr
  have HK := Lib.hid hk
  have HF := Lib.hid (show FeedAt w b s hv from ⟨kv, ha, hr, hk⟩)
  unfold feedA at c0
  clear ha hr hk
  go_enter Tryd.func21, Tryd.ntmps21
  go_wp2_with (fail)
  refine bodyPost_ret (results_ct (p := 4) (u := 5) (ty := 28) (fn := Tryd.f21) ?h0 _ _ w.heap.size 28 Z7 (0, 0) _ ?h1 ?h2 Tryd.underlying28 rfl (by kernel_rfl)) ?h3 ?h4
  case h0 => rfl
  case h1 => rfl
  case h2 => exact blk_at (by simp [World.setCell])
  case h3 => rfl
  case h4 =>
    have kc : Chg (fun i => i = b) w ((w.setCell ⟨b, 0, none⟩ (.func (.func (modeF 0)) #[.pointer (some ⟨b, 0, none⟩)] #[])).alloc (.cells Z7 28)) := chg_alloc (chg_set (chg_refl _ _) rfl)
    exact ⟨hv, .slice none 0 0, rfl, keys_nil _, feed_upd HA.out HR.out HK.out kc (at_alloc (at_set' HA.out rfl)) rfl rfl, chg_turn kc, .inl rfl⟩
set_option maxRecDepth 100000 in
set_option maxHeartbeats 3200000 in
theorem pass_no (b : Nat) (s : St) (hv : Value) (x : Int) (w : World) (h : FeedAt w b s hv) (hx : x ≠ 10) :
    Calls Tryd.prog 21 #[.pointer (some ⟨b, 0, none⟩), .int .u8 x] w (StepsTo b hv w s cm0 false) := by
  have hx0 : (x == 10) = false := beq_eq_false_iff_ne.2 hx
  have HF := Lib.hid h
  clear h hx
  go_enter Tryd.func21, Tryd.ntmps21
  go_wp2_with (fail)
  refine bodyPost_ret (results_ct (p := 4) (u := 5) (ty := 28) (fn := Tryd.f21) ?h0 _ _ w.heap.size 28 Z7 (0, 0) _ ?h1 ?h2 Tryd.underlying28 rfl (by kernel_rfl)) ?h3 ?h4
  case h0 => rfl
  case h1 => rfl
  case h2 => exact blk_at rfl
  case h3 => rfl
  case h4 =>
    obtain ⟨kv, ha, hr, hk⟩ := HF.out
    have kc : Chg (fun i => i = b) w (w.alloc (.cells Z7 28)) := chg_alloc (chg_refl _ _)
    exact ⟨hv, .slice none 0 0, rfl, keys_nil _, feed_upd ha hr hk kc (at_alloc ha) rfl rfl, chg_turn kc, .inl rfl⟩
theorem pass_any (b : Nat) (s : St) (hv : Value) (x : Int) (w : World) (h : FeedAt w b s hv) :
    Calls Tryd.prog 21 #[.pointer (some ⟨b, 0, none⟩), .int .u8 x] w (StepsTo b hv w (passS s x) cm0 false) := by
  unfold passS
  by_cases hx : x = 10
  · subst hx
    rw [if_pos rfl]
    exact pass_nl b s hv w h
  · rw [if_neg hx]
    exact pass_no b s hv x w h hx
end Go.Proofs.YthinmioognadpaaDoor.Feed

/- data: one byte of data (own text; written by wip/tools/gen_feeddata.py). -/
namespace Go.Proofs.YthinmioognadpaaDoor.Feed
open Go.RowKit Go.Proofs.YthinmioognadpaaDoor.Mem Go.Proofs.YthinmioognadpaaDoorW.PrintWords Go.Proofs.YthinmioognadpaaDoorW.PrintLast Go.Proofs.YthinmioognadpaaDoorW.PrintMore
set_option linter.unusedVariables false
set_option linter.unusedSimpArgs false
theorem infoU8 : (Tryd.prog.info? 5).map (fun i => (i.zero, i.size, i.bytes)) = some (some (.int .u8 0), 1, 1) := by kernel_rfl
theorem at7 {w : World} {b : Nat} {c0 c1 c2 c3 c4 c5 c6 : Value} {t : TypeId} (h : At w b #[c0, c1, c2, c3, c4, c5, c6] t) :
    w.cell? ⟨b, 0, none⟩ = some c0 ∧ w.cell? ⟨b, 1, none⟩ = some c1 ∧ w.cell? ⟨b, 2, none⟩ = some c2 ∧ w.cell? ⟨b, 3, none⟩ = some c3 ∧ w.cell? ⟨b, 4, none⟩ = some c4 ∧ w.cell? ⟨b, 5, none⟩ = some c5 ∧ w.cell? ⟨b, 6, none⟩ = some c6 ∧
    w.frozen? ⟨b, 0, none⟩ = false ∧ w.frozen? ⟨b, 1, none⟩ = false ∧ w.frozen? ⟨b, 2, none⟩ = false ∧ w.frozen? ⟨b, 3, none⟩ = false ∧ w.frozen? ⟨b, 4, none⟩ = false ∧ w.frozen? ⟨b, 5, none⟩ = false ∧ w.frozen? ⟨b, 6, none⟩ = false :=
  ⟨h.cell 0, h.cell 1, h.cell 2, h.cell 3, h.cell 4, h.cell 5, h.cell 6, h.free 0, h.free 1, h.free 2, h.free 3, h.free 4, h.free 5, h.free 6⟩
set_option maxRecDepth 100000 in
set_option maxHeartbeats 3200000 in
theorem data_tz (b : Nat) (s : St) (hv : Value) (x : Int) (w : World) (h : FeedAt w b s hv) (hl : s.held.length ≤ 100000) (hlf : 0 ≤ s.left ∧ s.left ≤ 4294967296) (hk8 : (s.c.kind != 8) = true) (hz : (s.left - 1 == 0) = true) :
    Calls Tryd.prog 24 #[.pointer (some ⟨b, 0, none⟩), .int .u8 x] w (StepsTo b hv w { s with held := s.held ++ [x], left := s.left - 1, mode := 3 } cm0 false) := by
  obtain ⟨kv, ha, hr, hk⟩ := h
  have vw : IntKind.i64.wrap (s.left - 1) = s.left - 1 := IntWalk.i64_in _ ⟨by omega, by omega⟩
  have HL := Lib.hid hl
  have hq8 : (s.c.kind == 8) = false := by
    have := hk8
    rw [bne, Bool.not_eq_eq_eq_not] at this
    simpa using this
  go_enter Tryd.func24, Tryd.ntmps24
  go_upto_region 1 with (fail)
  have HA := Lib.hid (at_alloc (o := .cells Z7 28) ha)
  have HR1 := Lib.hid (Kd.R_alloc hr (.cells Z7 28))
  have HK := Lib.hid (keys_below hk (below_alloc (Below.refl _ _) (.cells Z7 28)))
  have HY := Lib.hid (at_new w Z7 28)
  have HT := Lib.hid (turn_below (turn_refl b hv w) (below_alloc (Below.refl _ _) (.cells Z7 28)))
  have hsz : w.heap.size < (w.alloc (.cells Z7 28)).heap.size := by rw [World.size_alloc]; omega
  have hb := ha.lt
  clear ha hr hk hl hlf
  unfold Z7 at HA HR1 HK HY HT hsz
  generalize w.alloc (.cells #[.int .i64 0, .slice none 0 0, .int .u32 0, .int .i64 0, .string ⟨#[]⟩, .bool false, .string ⟨#[]⟩] 28) = w0 at *
  replace HY : Hid (At w0 w.heap.size Z7 28) := HY
  have c2 : w0.cell? ⟨b, 2, none⟩ = some (.int .i64 s.c.kind) := HA.out.cell 2
  have c1 : w0.cell? ⟨b, 1, none⟩ = some hv := HA.out.cell 1
  go_upto_region 3 with (first
    | ((with_reducible refine gate_dst (N := 19) rfl ?_); refine Kd.R_append (Kd.int .u8) (w0 := w0) 0 (by rfl) (.tmp 16) (.tmp 18) 38 5 (.int .u8 0) 1 rfl Tryd.underlying38 infoU8 rfl (by decide) (by omega) hv s.held x [.int .u8 x] (fun _ => True) (fun _ => False) rfl rfl ?aP (fun _ hk => hk.elim) ?aF ?aO ?aB ?aS ?aL ?_; (case aP => exact rfl); (case aF => exact (fun _ _ => trivial)); (case aO => exact HR1.out); (case aB => exact Below.refl 0 _); (case aS => exact Nat.zero_le _); (case aL => have := HL.out; omega); intro v1 w1 ho hb4 hg4 hat; have HA1 := Lib.hid (show At w1 b (feedA b s hv kv) 42 from (hg4.block _ HA.out.lt (own_ne HA.out HR1.out)).trans HA.out); have HY1 := Lib.hid (show At w1 w.heap.size Z7 28 from (hg4.block _ HY.out.lt (Kd.R_ne HR1.out HY.out (by decide))).trans HY.out); have HK1 := Lib.hid (keys_keep HK.out (fun j cells hc => hg4.block j (Array.getElem?_eq_some_iff.1 hc).1 (Kd.R_ne HR1.out hc (by decide)))); have HT1 := Lib.hid (turn_grown HT.out hg4); have HV1 := Lib.hid ho; have HAT := Lib.hid (show v1.ownBlock = hv.ownBlock ∨ ∃ k, v1.ownBlock = some k ∧ w.heap.size ≤ k from hat.imp id (fun ⟨k, h1, h2⟩ => ⟨k, h1, by omega⟩)); clear ho hb4 hg4 hat; obtain ⟨A9, c9, ev⟩ := Kd.R_slice HV1.out; obtain ⟨q9, hq9⟩ : ∃ q, q = (s.held ++ [x]).length := ⟨_, rfl⟩; rw [← hq9] at ev; clear hq9; subst ev; have d0 : w1.cell? ⟨b, 1, none⟩ = some hv := HA1.out.cell 1; have d1 := HA1.out.free 1))
  have HA2 := Lib.hid (show At (w1.setCell ⟨b, 1, none⟩ (.slice A9 q9 c9)) b (feedA b { s with held := s.held ++ [x] } (.slice A9 q9 c9) kv) 42 from at_set' HA1.out rfl)
  have HY2 := Lib.hid (show At (w1.setCell ⟨b, 1, none⟩ (.slice A9 q9 c9)) w.heap.size Z7 28 from at_set_ne HY1.out (by omega))
  have kc : Chg (fun i => i = b) w1 (w1.setCell ⟨b, 1, none⟩ (.slice A9 q9 c9)) := chg_set (chg_refl _ _) rfl
  have HK2 := Lib.hid (keys_keep HK1.out (fun j cells hc => kc.block j (Array.getElem?_eq_some_iff.1 hc).1 (keys_own HA1.out hc)))
  have HV2 := Lib.hid (Kd.R_mono (Kd.R_step (Kd.R_tight rfl HV1.out) (fun j hj hlt => kc.block j hlt (fun e => by
    obtain ⟨cells', hc'⟩ := Kd.R_typed HV1.out j hj.symm
    have h1 := HA1.out
    unfold At at h1
    rw [e, h1] at hc'
    injection hc' with hc'
    injection hc' with _ ht
    cases ht))) (fun _ _ => trivial))
  have HT2 := Lib.hid (turn_set (i := 1) (v := .slice A9 q9 c9) HT1.out)
  clear HA1 HY1 HK1 HV1 HT1 kc d0 d1 c1 c2 HA HR1 HK HY HT
  generalize w1.setCell ⟨b, 1, none⟩ (.slice A9 q9 c9) = w2 at *
  have e9 : w2.cell? ⟨b, 9, none⟩ = some (.int .i64 s.left) := HA2.out.cell 9
  have g9 := HA2.out.free 9
  have hbw := HA2.out.lt
  have hyw := HY2.out.lt
  go_upto_region 5 with (fail)
  have kc : Chg (fun i => i = b) w2 (w2.setCell ⟨b, 9, none⟩ (.int .i64 (s.left - 1))) := chg_set (chg_refl _ _) rfl
  have HA3 := Lib.hid (show At (w2.setCell ⟨b, 9, none⟩ (.int .i64 (s.left - 1))) b (feedA b { s with held := s.held ++ [x], left := s.left - 1 } (.slice A9 q9 c9) kv) 42 from at_set' HA2.out rfl)
  have HF3 := Lib.hid (feed_upd HA2.out HV2.out HK2.out kc HA3.out rfl rfl)
  have HY3 := Lib.hid (show At (w2.setCell ⟨b, 9, none⟩ (.int .i64 (s.left - 1))) w.heap.size Z7 28 from at_set_ne HY2.out (by omega))
  have HT3 := Lib.hid (turn_set (i := 9) (v := .int .i64 (s.left - 1)) HT2.out)
  clear HA2 HV2 HK2 HY2 HT2 kc e9 g9
  generalize w2.setCell ⟨b, 9, none⟩ (.int .i64 (s.left - 1)) = w3 at *
  have e9 : w3.cell? ⟨b, 9, none⟩ = some (.int .i64 (s.left - 1)) := HA3.out.cell 9
  have e0 : w3.cell? ⟨b, 0, none⟩ = some (.func (.func (modeF s.mode)) #[.pointer (some ⟨b, 0, none⟩)] #[]) := HA3.out.cell 0
  have g0 := HA3.out.free 0
  obtain ⟨q0, q1, q2, q3, q4, q5, q6, r0, r1, r2, r3, r4, r5, r6⟩ := at7 HY3.out
  go_wp2_with (fail)
  have HF4 : FeedAt (w3.setCell ⟨b, 0, none⟩ (.func (.func (modeF 3)) #[.pointer (some ⟨b, 0, none⟩)] #[])) b { s with held := s.held ++ [x], left := s.left - 1, mode := 3 } ((.slice A9 q9 c9)) := by
    obtain ⟨kv', ha', hr', hk'⟩ := HF3.out
    exact feed_upd ha' hr' hk' (chg_set (chg_refl _ _) rfl) (at_set' ha' rfl) rfl rfl
  have HY4 : At (w3.setCell ⟨b, 0, none⟩ (.func (.func (modeF 3)) #[.pointer (some ⟨b, 0, none⟩)] #[])) w.heap.size Z7 28 := at_set_ne HY3.out (by omega)
  have HT4 : Turn b hv w (w3.setCell ⟨b, 0, none⟩ (.func (.func (modeF 3)) #[.pointer (some ⟨b, 0, none⟩)] #[])) := turn_set HT3.out
  refine bodyPost_ret (results_ct (p := 4) (u := 5) (ty := 28) (fn := Tryd.f24) ?h0 _ _ w.heap.size 28 Z7 (0, 0) _ ?h1 ?h2 Tryd.underlying28 rfl (by kernel_rfl)) ?h3 ?h4
  case h0 => rfl
  case h1 => rfl
  case h2 => exact at_put7 HY4
  case h3 => rfl
  case h4 => exact ⟨(.slice A9 q9 c9), .slice none 0 0, rfl, keys_nil _, feed_res HF4 HY4 (chg_set7 (chg_refl _ _)), turn_new7 HT4 (Nat.le_refl _), HAT.out⟩
set_option maxRecDepth 100000 in
set_option maxHeartbeats 3200000 in
theorem data_tn (b : Nat) (s : St) (hv : Value) (x : Int) (w : World) (h : FeedAt w b s hv) (hl : s.held.length ≤ 100000) (hlf : 0 ≤ s.left ∧ s.left ≤ 4294967296) (hk8 : (s.c.kind != 8) = true) (hz : (s.left - 1 == 0) = false) :
    Calls Tryd.prog 24 #[.pointer (some ⟨b, 0, none⟩), .int .u8 x] w (StepsTo b hv w { s with held := s.held ++ [x], left := s.left - 1 } cm0 false) := by
  obtain ⟨kv, ha, hr, hk⟩ := h
  have vw : IntKind.i64.wrap (s.left - 1) = s.left - 1 := IntWalk.i64_in _ ⟨by omega, by omega⟩
  have HL := Lib.hid hl
  have hq8 : (s.c.kind == 8) = false := by
    have := hk8
    rw [bne, Bool.not_eq_eq_eq_not] at this
    simpa using this
  go_enter Tryd.func24, Tryd.ntmps24
  go_upto_region 1 with (fail)
  have HA := Lib.hid (at_alloc (o := .cells Z7 28) ha)
  have HR1 := Lib.hid (Kd.R_alloc hr (.cells Z7 28))
  have HK := Lib.hid (keys_below hk (below_alloc (Below.refl _ _) (.cells Z7 28)))
  have HY := Lib.hid (at_new w Z7 28)
  have HT := Lib.hid (turn_below (turn_refl b hv w) (below_alloc (Below.refl _ _) (.cells Z7 28)))
  have hsz : w.heap.size < (w.alloc (.cells Z7 28)).heap.size := by rw [World.size_alloc]; omega
  have hb := ha.lt
  clear ha hr hk hl hlf
  unfold Z7 at HA HR1 HK HY HT hsz
  generalize w.alloc (.cells #[.int .i64 0, .slice none 0 0, .int .u32 0, .int .i64 0, .string ⟨#[]⟩, .bool false, .string ⟨#[]⟩] 28) = w0 at *
  replace HY : Hid (At w0 w.heap.size Z7 28) := HY
  have c2 : w0.cell? ⟨b, 2, none⟩ = some (.int .i64 s.c.kind) := HA.out.cell 2
  have c1 : w0.cell? ⟨b, 1, none⟩ = some hv := HA.out.cell 1
  go_upto_region 3 with (first
    | ((with_reducible refine gate_dst (N := 19) rfl ?_); refine Kd.R_append (Kd.int .u8) (w0 := w0) 0 (by rfl) (.tmp 16) (.tmp 18) 38 5 (.int .u8 0) 1 rfl Tryd.underlying38 infoU8 rfl (by decide) (by omega) hv s.held x [.int .u8 x] (fun _ => True) (fun _ => False) rfl rfl ?aP (fun _ hk => hk.elim) ?aF ?aO ?aB ?aS ?aL ?_; (case aP => exact rfl); (case aF => exact (fun _ _ => trivial)); (case aO => exact HR1.out); (case aB => exact Below.refl 0 _); (case aS => exact Nat.zero_le _); (case aL => have := HL.out; omega); intro v1 w1 ho hb4 hg4 hat; have HA1 := Lib.hid (show At w1 b (feedA b s hv kv) 42 from (hg4.block _ HA.out.lt (own_ne HA.out HR1.out)).trans HA.out); have HY1 := Lib.hid (show At w1 w.heap.size Z7 28 from (hg4.block _ HY.out.lt (Kd.R_ne HR1.out HY.out (by decide))).trans HY.out); have HK1 := Lib.hid (keys_keep HK.out (fun j cells hc => hg4.block j (Array.getElem?_eq_some_iff.1 hc).1 (Kd.R_ne HR1.out hc (by decide)))); have HT1 := Lib.hid (turn_grown HT.out hg4); have HV1 := Lib.hid ho; have HAT := Lib.hid (show v1.ownBlock = hv.ownBlock ∨ ∃ k, v1.ownBlock = some k ∧ w.heap.size ≤ k from hat.imp id (fun ⟨k, h1, h2⟩ => ⟨k, h1, by omega⟩)); clear ho hb4 hg4 hat; obtain ⟨A9, c9, ev⟩ := Kd.R_slice HV1.out; obtain ⟨q9, hq9⟩ : ∃ q, q = (s.held ++ [x]).length := ⟨_, rfl⟩; rw [← hq9] at ev; clear hq9; subst ev; have d0 : w1.cell? ⟨b, 1, none⟩ = some hv := HA1.out.cell 1; have d1 := HA1.out.free 1))
  have HA2 := Lib.hid (show At (w1.setCell ⟨b, 1, none⟩ (.slice A9 q9 c9)) b (feedA b { s with held := s.held ++ [x] } (.slice A9 q9 c9) kv) 42 from at_set' HA1.out rfl)
  have HY2 := Lib.hid (show At (w1.setCell ⟨b, 1, none⟩ (.slice A9 q9 c9)) w.heap.size Z7 28 from at_set_ne HY1.out (by omega))
  have kc : Chg (fun i => i = b) w1 (w1.setCell ⟨b, 1, none⟩ (.slice A9 q9 c9)) := chg_set (chg_refl _ _) rfl
  have HK2 := Lib.hid (keys_keep HK1.out (fun j cells hc => kc.block j (Array.getElem?_eq_some_iff.1 hc).1 (keys_own HA1.out hc)))
  have HV2 := Lib.hid (Kd.R_mono (Kd.R_step (Kd.R_tight rfl HV1.out) (fun j hj hlt => kc.block j hlt (fun e => by
    obtain ⟨cells', hc'⟩ := Kd.R_typed HV1.out j hj.symm
    have h1 := HA1.out
    unfold At at h1
    rw [e, h1] at hc'
    injection hc' with hc'
    injection hc' with _ ht
    cases ht))) (fun _ _ => trivial))
  have HT2 := Lib.hid (turn_set (i := 1) (v := .slice A9 q9 c9) HT1.out)
  clear HA1 HY1 HK1 HV1 HT1 kc d0 d1 c1 c2 HA HR1 HK HY HT
  generalize w1.setCell ⟨b, 1, none⟩ (.slice A9 q9 c9) = w2 at *
  have e9 : w2.cell? ⟨b, 9, none⟩ = some (.int .i64 s.left) := HA2.out.cell 9
  have g9 := HA2.out.free 9
  have hbw := HA2.out.lt
  have hyw := HY2.out.lt
  go_upto_region 6 with (fail)
  have kc : Chg (fun i => i = b) w2 (w2.setCell ⟨b, 9, none⟩ (.int .i64 (s.left - 1))) := chg_set (chg_refl _ _) rfl
  have HA3 := Lib.hid (show At (w2.setCell ⟨b, 9, none⟩ (.int .i64 (s.left - 1))) b (feedA b { s with held := s.held ++ [x], left := s.left - 1 } (.slice A9 q9 c9) kv) 42 from at_set' HA2.out rfl)
  have HF3 := Lib.hid (feed_upd HA2.out HV2.out HK2.out kc HA3.out rfl rfl)
  have HY3 := Lib.hid (show At (w2.setCell ⟨b, 9, none⟩ (.int .i64 (s.left - 1))) w.heap.size Z7 28 from at_set_ne HY2.out (by omega))
  have HT3 := Lib.hid (turn_set (i := 9) (v := .int .i64 (s.left - 1)) HT2.out)
  clear HA2 HV2 HK2 HY2 HT2 kc e9 g9
  generalize w2.setCell ⟨b, 9, none⟩ (.int .i64 (s.left - 1)) = w3 at *
  have e9 : w3.cell? ⟨b, 9, none⟩ = some (.int .i64 (s.left - 1)) := HA3.out.cell 9
  have e0 : w3.cell? ⟨b, 0, none⟩ = some (.func (.func (modeF s.mode)) #[.pointer (some ⟨b, 0, none⟩)] #[]) := HA3.out.cell 0
  have g0 := HA3.out.free 0
  obtain ⟨q0, q1, q2, q3, q4, q5, q6, r0, r1, r2, r3, r4, r5, r6⟩ := at7 HY3.out
  go_wp2_with (fail)
  have HF4 : FeedAt (w3) b { s with held := s.held ++ [x], left := s.left - 1 } ((.slice A9 q9 c9)) := HF3.out
  have HY4 : At (w3) w.heap.size Z7 28 := HY3.out
  have HT4 : Turn b hv w (w3) := HT3.out
  refine bodyPost_ret (results_ct (p := 4) (u := 5) (ty := 28) (fn := Tryd.f24) ?h0 _ _ w.heap.size 28 Z7 (0, 0) _ ?h1 ?h2 Tryd.underlying28 rfl (by kernel_rfl)) ?h3 ?h4
  case h0 => rfl
  case h1 => rfl
  case h2 => exact at_put7 HY4
  case h3 => rfl
  case h4 => exact ⟨(.slice A9 q9 c9), .slice none 0 0, rfl, keys_nil _, feed_res HF4 HY4 (chg_set7 (chg_refl _ _)), turn_new7 HT4 (Nat.le_refl _), HAT.out⟩
set_option maxRecDepth 100000 in
set_option maxHeartbeats 3200000 in
theorem data_bz (b : Nat) (s : St) (hv : Value) (x : Int) (w : World) (h : FeedAt w b s hv) (hl : s.held.length ≤ 100000) (hlf : 0 ≤ s.left ∧ s.left ≤ 4294967296) (hk8 : (s.c.kind != 8) = false) (hz : (s.left - 1 == 0) = true) :
    Calls Tryd.prog 24 #[.pointer (some ⟨b, 0, none⟩), .int .u8 x] w (StepsTo b hv w { s with left := s.left - 1, mode := 3 } cm0 false) := by
  obtain ⟨kv, ha, hr, hk⟩ := h
  have vw : IntKind.i64.wrap (s.left - 1) = s.left - 1 := IntWalk.i64_in _ ⟨by omega, by omega⟩
  have HL := Lib.hid hl
  have hq8 : (s.c.kind == 8) = true := by
    have := hk8
    rw [bne, Bool.not_eq_eq_eq_not] at this
    simpa using this
  go_enter Tryd.func24, Tryd.ntmps24
  go_upto_region 1 with (fail)
  have HA := Lib.hid (at_alloc (o := .cells Z7 28) ha)
  have HR1 := Lib.hid (Kd.R_alloc hr (.cells Z7 28))
  have HK := Lib.hid (keys_below hk (below_alloc (Below.refl _ _) (.cells Z7 28)))
  have HY := Lib.hid (at_new w Z7 28)
  have HT := Lib.hid (turn_below (turn_refl b hv w) (below_alloc (Below.refl _ _) (.cells Z7 28)))
  have hsz : w.heap.size < (w.alloc (.cells Z7 28)).heap.size := by rw [World.size_alloc]; omega
  have hb := ha.lt
  clear ha hr hk hl hlf
  unfold Z7 at HA HR1 HK HY HT hsz
  generalize w.alloc (.cells #[.int .i64 0, .slice none 0 0, .int .u32 0, .int .i64 0, .string ⟨#[]⟩, .bool false, .string ⟨#[]⟩] 28) = w0 at *
  replace HY : Hid (At w0 w.heap.size Z7 28) := HY
  have c2 : w0.cell? ⟨b, 2, none⟩ = some (.int .i64 s.c.kind) := HA.out.cell 2
  have c1 : w0.cell? ⟨b, 1, none⟩ = some hv := HA.out.cell 1
  go_upto_region 3 with (fail)
  have HA2 := HA
  have HY2 := HY
  have HK2 := HK
  have HV2 := HR1
  have HT2 := HT
  clear HA HR1 HK HY HT c1 c2
  generalize w0 = w2 at *
  have e9 : w2.cell? ⟨b, 9, none⟩ = some (.int .i64 s.left) := HA2.out.cell 9
  have g9 := HA2.out.free 9
  have hbw := HA2.out.lt
  have hyw := HY2.out.lt
  go_upto_region 5 with (fail)
  have kc : Chg (fun i => i = b) w2 (w2.setCell ⟨b, 9, none⟩ (.int .i64 (s.left - 1))) := chg_set (chg_refl _ _) rfl
  have HA3 := Lib.hid (show At (w2.setCell ⟨b, 9, none⟩ (.int .i64 (s.left - 1))) b (feedA b { s with left := s.left - 1 } (hv) kv) 42 from at_set' HA2.out rfl)
  have HF3 := Lib.hid (feed_upd HA2.out HV2.out HK2.out kc HA3.out rfl rfl)
  have HY3 := Lib.hid (show At (w2.setCell ⟨b, 9, none⟩ (.int .i64 (s.left - 1))) w.heap.size Z7 28 from at_set_ne HY2.out (by omega))
  have HT3 := Lib.hid (turn_set (i := 9) (v := .int .i64 (s.left - 1)) HT2.out)
  clear HA2 HV2 HK2 HY2 HT2 kc e9 g9
  generalize w2.setCell ⟨b, 9, none⟩ (.int .i64 (s.left - 1)) = w3 at *
  have e9 : w3.cell? ⟨b, 9, none⟩ = some (.int .i64 (s.left - 1)) := HA3.out.cell 9
  have e0 : w3.cell? ⟨b, 0, none⟩ = some (.func (.func (modeF s.mode)) #[.pointer (some ⟨b, 0, none⟩)] #[]) := HA3.out.cell 0
  have g0 := HA3.out.free 0
  obtain ⟨q0, q1, q2, q3, q4, q5, q6, r0, r1, r2, r3, r4, r5, r6⟩ := at7 HY3.out
  go_wp2_with (fail)
  have HF4 : FeedAt (w3.setCell ⟨b, 0, none⟩ (.func (.func (modeF 3)) #[.pointer (some ⟨b, 0, none⟩)] #[])) b { s with left := s.left - 1, mode := 3 } (hv) := by
    obtain ⟨kv', ha', hr', hk'⟩ := HF3.out
    exact feed_upd ha' hr' hk' (chg_set (chg_refl _ _) rfl) (at_set' ha' rfl) rfl rfl
  have HY4 : At (w3.setCell ⟨b, 0, none⟩ (.func (.func (modeF 3)) #[.pointer (some ⟨b, 0, none⟩)] #[])) w.heap.size Z7 28 := at_set_ne HY3.out (by omega)
  have HT4 : Turn b hv w (w3.setCell ⟨b, 0, none⟩ (.func (.func (modeF 3)) #[.pointer (some ⟨b, 0, none⟩)] #[])) := turn_set HT3.out
  refine bodyPost_ret (results_ct (p := 4) (u := 5) (ty := 28) (fn := Tryd.f24) ?h0 _ _ w.heap.size 28 Z7 (0, 0) _ ?h1 ?h2 Tryd.underlying28 rfl (by kernel_rfl)) ?h3 ?h4
  case h0 => rfl
  case h1 => rfl
  case h2 => exact at_put7 HY4
  case h3 => rfl
  case h4 => exact ⟨hv, .slice none 0 0, rfl, keys_nil _, feed_res HF4 HY4 (chg_set7 (chg_refl _ _)), turn_new7 HT4 (Nat.le_refl _), .inl rfl⟩
set_option maxRecDepth 100000 in
set_option maxHeartbeats 3200000 in
theorem data_bn (b : Nat) (s : St) (hv : Value) (x : Int) (w : World) (h : FeedAt w b s hv) (hl : s.held.length ≤ 100000) (hlf : 0 ≤ s.left ∧ s.left ≤ 4294967296) (hk8 : (s.c.kind != 8) = false) (hz : (s.left - 1 == 0) = false) :
    Calls Tryd.prog 24 #[.pointer (some ⟨b, 0, none⟩), .int .u8 x] w (StepsTo b hv w { s with left := s.left - 1 } cm0 false) := by
  obtain ⟨kv, ha, hr, hk⟩ := h
  have vw : IntKind.i64.wrap (s.left - 1) = s.left - 1 := IntWalk.i64_in _ ⟨by omega, by omega⟩
  have HL := Lib.hid hl
  have hq8 : (s.c.kind == 8) = true := by
    have := hk8
    rw [bne, Bool.not_eq_eq_eq_not] at this
    simpa using this
  go_enter Tryd.func24, Tryd.ntmps24
  go_upto_region 1 with (fail)
  have HA := Lib.hid (at_alloc (o := .cells Z7 28) ha)
  have HR1 := Lib.hid (Kd.R_alloc hr (.cells Z7 28))
  have HK := Lib.hid (keys_below hk (below_alloc (Below.refl _ _) (.cells Z7 28)))
  have HY := Lib.hid (at_new w Z7 28)
  have HT := Lib.hid (turn_below (turn_refl b hv w) (below_alloc (Below.refl _ _) (.cells Z7 28)))
  have hsz : w.heap.size < (w.alloc (.cells Z7 28)).heap.size := by rw [World.size_alloc]; omega
  have hb := ha.lt
  clear ha hr hk hl hlf
  unfold Z7 at HA HR1 HK HY HT hsz
  generalize w.alloc (.cells #[.int .i64 0, .slice none 0 0, .int .u32 0, .int .i64 0, .string ⟨#[]⟩, .bool false, .string ⟨#[]⟩] 28) = w0 at *
  replace HY : Hid (At w0 w.heap.size Z7 28) := HY
  have c2 : w0.cell? ⟨b, 2, none⟩ = some (.int .i64 s.c.kind) := HA.out.cell 2
  have c1 : w0.cell? ⟨b, 1, none⟩ = some hv := HA.out.cell 1
  go_upto_region 3 with (fail)
  have HA2 := HA
  have HY2 := HY
  have HK2 := HK
  have HV2 := HR1
  have HT2 := HT
  clear HA HR1 HK HY HT c1 c2
  generalize w0 = w2 at *
  have e9 : w2.cell? ⟨b, 9, none⟩ = some (.int .i64 s.left) := HA2.out.cell 9
  have g9 := HA2.out.free 9
  have hbw := HA2.out.lt
  have hyw := HY2.out.lt
  go_upto_region 6 with (fail)
  have kc : Chg (fun i => i = b) w2 (w2.setCell ⟨b, 9, none⟩ (.int .i64 (s.left - 1))) := chg_set (chg_refl _ _) rfl
  have HA3 := Lib.hid (show At (w2.setCell ⟨b, 9, none⟩ (.int .i64 (s.left - 1))) b (feedA b { s with left := s.left - 1 } (hv) kv) 42 from at_set' HA2.out rfl)
  have HF3 := Lib.hid (feed_upd HA2.out HV2.out HK2.out kc HA3.out rfl rfl)
  have HY3 := Lib.hid (show At (w2.setCell ⟨b, 9, none⟩ (.int .i64 (s.left - 1))) w.heap.size Z7 28 from at_set_ne HY2.out (by omega))
  have HT3 := Lib.hid (turn_set (i := 9) (v := .int .i64 (s.left - 1)) HT2.out)
  clear HA2 HV2 HK2 HY2 HT2 kc e9 g9
  generalize w2.setCell ⟨b, 9, none⟩ (.int .i64 (s.left - 1)) = w3 at *
  have e9 : w3.cell? ⟨b, 9, none⟩ = some (.int .i64 (s.left - 1)) := HA3.out.cell 9
  have e0 : w3.cell? ⟨b, 0, none⟩ = some (.func (.func (modeF s.mode)) #[.pointer (some ⟨b, 0, none⟩)] #[]) := HA3.out.cell 0
  have g0 := HA3.out.free 0
  obtain ⟨q0, q1, q2, q3, q4, q5, q6, r0, r1, r2, r3, r4, r5, r6⟩ := at7 HY3.out
  go_wp2_with (fail)
  have HF4 : FeedAt (w3) b { s with left := s.left - 1 } (hv) := HF3.out
  have HY4 : At (w3) w.heap.size Z7 28 := HY3.out
  have HT4 : Turn b hv w (w3) := HT3.out
  refine bodyPost_ret (results_ct (p := 4) (u := 5) (ty := 28) (fn := Tryd.f24) ?h0 _ _ w.heap.size 28 Z7 (0, 0) _ ?h1 ?h2 Tryd.underlying28 rfl (by kernel_rfl)) ?h3 ?h4
  case h0 => rfl
  case h1 => rfl
  case h2 => exact at_put7 HY4
  case h3 => rfl
  case h4 => exact ⟨hv, .slice none 0 0, rfl, keys_nil _, feed_res HF4 HY4 (chg_set7 (chg_refl _ _)), turn_new7 HT4 (Nat.le_refl _), .inl rfl⟩
def dataS (s : St) (x : Int) : St := { s with held := if s.c.kind = 8 then s.held else s.held ++ [x], left := s.left - 1, mode := if s.left - 1 = 0 then 3 else s.mode }
theorem data_any (b : Nat) (s : St) (hv : Value) (x : Int) (w : World) (h : FeedAt w b s hv) (hl : s.held.length ≤ 100000) (hlf : 0 ≤ s.left ∧ s.left ≤ 4294967296) :
    Calls Tryd.prog 24 #[.pointer (some ⟨b, 0, none⟩), .int .u8 x] w (StepsTo b hv w (dataS s x) cm0 false) := by
  unfold dataS
  by_cases h8 : s.c.kind = 8
  · rw [if_pos h8]
    by_cases hz : s.left - 1 = 0
    · rw [if_pos hz]; exact data_bz b s hv x w h hl hlf (by rw [h8]; rfl) (beq_iff_eq.2 hz)
    · rw [if_neg hz]; exact data_bn b s hv x w h hl hlf (by rw [h8]; rfl) (beq_eq_false_iff_ne.2 hz)
  · rw [if_neg h8]
    by_cases hz : s.left - 1 = 0
    · rw [if_pos hz]; exact data_tz b s hv x w h hl hlf (bne_iff_ne.2 h8) (beq_iff_eq.2 hz)
    · rw [if_neg hz]; exact data_tn b s hv x w h hl hlf (bne_iff_ne.2 h8) (beq_eq_false_iff_ne.2 hz)
end Go.Proofs.YthinmioognadpaaDoor.Feed

/- A request in memory: the block of its head, the row of its answers (own text). -/
import Derived.Test.YtnbcbokdbenbiaaPAskx1
import Derived.Test.YtnbcbokdbenbiaaAskPlain
import Derived.Test.YtnbcbokdbenbiaaSets
import Derived.Test.YtnbcbokdbenbiaaRecCmp
namespace Go.Proofs.Ytnbcbokdbenbiaa.Ask
open Go.RowKit Go.Proofs.Ytnbcbokdbenbiaa.Mem Go.Proofs.YtnbcbokdbenbiaaW.PrintWords Go.Proofs.YtnbcbokdbenbiaaW.PrintLast Go.Proofs.YtnbcbokdbenbiaaW.PrintMore Go.Lib
set_option linter.unusedVariables false
set_option linter.unusedSimpArgs false
instance : Inhabited An := ⟨an0⟩
def ansV (x : An) : List Value := [.int .u8 x.node, .bool x.come, .bool x.r.has, .bool x.r.past, .string x.r.key, .int .u64 x.r.p, .int .u32 x.r.l, .int .u8 x.r.n, .int .u8 x.r.kd, .int .u32 x.r.fl, .int .u64 x.r.ex, .string x.r.bd]
theorem ansV_len (x : An) : (ansV x).length = 12 := rfl
def flat (l : List An) : List Value := l.flatMap ansV
theorem flat_len (l : List An) : (flat l).length = l.length * 12 := by
  induction l with
  | nil => rfl
  | cons x l ih => rw [flat, List.flatMap_cons, List.length_append, ansV_len]; rw [flat] at ih; rw [ih, List.length_cons]; omega
theorem flat_app (a b : List An) : flat (a ++ b) = flat a ++ flat b := by simp [flat]
theorem flat_at (l : List An) (k : Nat) (hk : k < l.length) (i : Nat) (hi : i < 12) : (flat l)[k * 12 + i]? = (ansV l[k])[i]? := by
  have e : l = l.take k ++ (l[k] :: l.drop (k + 1)) := by rw [List.getElem_cons_drop]; exact (List.take_append_drop k l).symm
  have h1 : flat l = flat (l.take k) ++ (ansV l[k] ++ flat (l.drop (k + 1))) := by
    conv => lhs; rw [e]
    rw [flat_app]
    rfl
  rw [h1, List.getElem?_append_right (by rw [flat_len, List.length_take]; omega), flat_len, List.length_take, List.getElem?_append_left (by rw [ansV_len]; omega)]
  congr 1
  omega
/-- The row of a request's answers: nil, or the first cells of a block. -/
def Row (w : World) (g : Nat) (v : Value) (l : List An) : Prop :=
  (v = .slice none 0 0 ∧ l = []) ∨ ∃ cap rest, v = .slice (some ⟨g, 0, none⟩) l.length cap ∧ 0 < l.length ∧ l.length ≤ cap ∧ At w g (flat l ++ rest).toArray 54
/-- A request: its head in block b, its row in block g. -/
def Req (w : World) (b g : Nat) (u : Int) (l : List An) : Prop := ∃ v, At w b #[v, .int .u64 u] 51 ∧ Row w g v l ∧ (0 < l.length → b < g) ∧ l.length ≤ 100
theorem row_cell {w : World} {g : Nat} {v : Value} {l : List An} (h : Row w g v l) (k : Nat) (hk : k < l.length) (i : Nat) (hi : i < 12) : w.cell? ⟨g, k * 12 + i, none⟩ = (ansV l[k])[i]? := by
  rcases h with ⟨_, rfl⟩ | ⟨cap, rest, _, _, _, ha⟩
  · simp at hk
  · rw [ha.cell]
    rw [List.getElem?_toArray, List.getElem?_append_left (by rw [flat_len]; omega)]
    exact flat_at l k hk i hi
theorem row_free {w : World} {g : Nat} {v : Value} {l : List An} (h : Row w g v l) (k : Nat) (hk : k < l.length) (i : Nat) : w.frozen? ⟨g, i, none⟩ = false := by
  rcases h with ⟨_, rfl⟩ | ⟨cap, rest, _, _, _, ha⟩
  · simp at hk
  · exact ha.free i
theorem row_val {w : World} {g : Nat} {v : Value} {l : List An} (h : Row w g v l) (hk : 0 < l.length) : ∃ cap, v = .slice (some ⟨g, 0, none⟩) l.length cap ∧ l.length ≤ cap ∧ g < w.heap.size := by
  rcases h with ⟨_, rfl⟩ | ⟨cap, rest, e, _, hc, ha⟩
  · simp at hk
  · exact ⟨cap, e, hc, ha.lt⟩
theorem row_slice {w : World} {g : Nat} {v : Value} {l : List An} (h : Row w g v l) : ∃ A cap, v = .slice A l.length cap ∧ l.length ≤ cap := by
  rcases h with ⟨e, rfl⟩ | ⟨cap, rest, e, _, hc, ha⟩
  · exact ⟨none, 0, e, Nat.le_refl _⟩
  · exact ⟨_, cap, e, hc⟩
theorem row_keep {w w' : World} {g : Nat} {v : Value} {l : List An} (h : Row w g v l) (hg : g < w.heap.size → w'.heap[g]? = w.heap[g]?) : Row w' g v l := by
  rcases h with ⟨e, rfl⟩ | ⟨cap, rest, e, h0, hc, ha⟩
  · exact .inl ⟨e, rfl⟩
  · exact .inr ⟨cap, rest, e, h0, hc, (hg ha.lt).trans ha⟩
theorem row_drew {w : World} {g : Nat} {v : Value} {l : List An} (h : Row w g v l) : Row w.drew g v l := h
theorem row_below {w w' : World} {g : Nat} {v : Value} {l : List An} (h : Row w g v l) (k : Below w.heap.size w w') : Row w' g v l := row_keep h (fun hg => k.block g hg)
theorem req_below {w w' : World} {b g : Nat} {u : Int} {l : List An} (h : Req w b g u l) (k : Below w.heap.size w w') : Req w' b g u l := by
  obtain ⟨v, ha, hr, hbg, hl⟩ := h
  exact ⟨v, at_below ha k, row_below hr k, hbg, hl⟩
theorem req_chg {w w' : World} {b g g' : Nat} {u : Int} {l : List An} (h : Req w b g u l) (k : Chg (· = g') w w') (h1 : b ≠ g') (h2 : g ≠ g') : Req w' b g u l := by
  obtain ⟨v, ha, hr, hbg, hl⟩ := h
  exact ⟨v, (k.block b ha.lt h1).trans ha, row_keep hr (fun hg => k.block g hg h2), hbg, hl⟩
theorem req_lt {w : World} {b g : Nat} {u : Int} {l : List An} (h : Req w b g u l) : b < w.heap.size := by
  obtain ⟨v, ha, _⟩ := h
  exact ha.lt
/-- One answer is written over: its cells but for the node. -/
theorem flat_set (l : List An) (k : Nat) (hk : k < l.length) (x : An) (rest : List Value) :
    flat (l.set k x) ++ rest = flat (l.take k) ++ ansV x ++ (flat (l.drop (k + 1)) ++ rest) := by
  have e : l.set k x = l.take k ++ (x :: l.drop (k + 1)) := by rw [List.set_eq_take_append_cons_drop, if_pos hk]
  rw [e, flat_app, List.append_assoc, List.append_assoc]
  show flat (l.take k) ++ ((ansV x ++ flat (l.drop (k + 1))) ++ rest) = _
  rw [List.append_assoc]
theorem set_mid (A e B : List Value) (i : Nat) (hi : i < e.length) (v : Value) : (A ++ e ++ B).set (A.length + i) v = A ++ e.set i v ++ B := by
  rw [List.append_assoc, List.set_append_right _ _ (by omega), List.set_append_left _ _ (by omega), List.append_assoc]
  rw [show A.length + i - A.length = i from by omega]
theorem at_mid {w : World} {g : Nat} {A e B : List Value} {t : TypeId} (h : At w g (A ++ e ++ B).toArray t) (i : Nat) (hi : i < e.length) (n : Nat) (hn : n = A.length + i) (v : Value) : At (w.setCell ⟨g, n, none⟩ v) g (A ++ e.set i v ++ B).toArray t := by
  subst hn
  refine at_set' h ?_
  rw [List.setIfInBounds_toArray, set_mid A e B i hi v]
/-- The row once an answer has been laid. -/
theorem row_take {w : World} {g : Nat} {v : Value} {l : List An} (h : Row w g v l) (k : Nat) (hk : k < l.length) (r : Rep) (o : Nat) (ho : o = k * 12) :
    Row (((((((((((w.setCell ⟨g, o + 1, none⟩ (.bool true)).setCell ⟨g, o + 2, none⟩ (.bool r.has)).setCell ⟨g, o + 2 + 1, none⟩ (.bool r.past)).setCell ⟨g, o + 2 + 2, none⟩ (.string r.key)).setCell ⟨g, o + 2 + 3, none⟩ (.int .u64 r.p)).setCell ⟨g, o + 2 + 4, none⟩ (.int .u32 r.l)).setCell ⟨g, o + 2 + 5, none⟩ (.int .u8 r.n)).setCell ⟨g, o + 2 + 6, none⟩ (.int .u8 r.kd)).setCell ⟨g, o + 2 + 7, none⟩ (.int .u32 r.fl)).setCell ⟨g, o + 2 + 8, none⟩ (.int .u64 r.ex)).setCell ⟨g, o + 2 + 9, none⟩ (.string r.bd)) g v (l.set k { l[k] with come := true, r := r }) := by
  subst ho
  rcases h with ⟨_, rfl⟩ | ⟨cap, rest, e, h0, hc, ha⟩
  · simp at hk
  · refine .inr ⟨cap, rest, by rw [List.length_set]; exact e, by rw [List.length_set]; exact h0, by rw [List.length_set]; exact hc, ?_⟩
    rw [flat_set l k hk]
    have hself : l.set k l[k] = l := by simp
    have hb : At w g (flat (l.take k) ++ ansV l[k] ++ (flat (l.drop (k + 1)) ++ rest)).toArray 54 := by
      rw [← flat_set l k hk l[k] rest, hself]; exact ha
    have hlen : (flat (l.take k)).length = k * 12 := by rw [flat_len, List.length_take]; omega
    have a1 := at_mid hb 1 (by rw [ansV_len]; omega) (k * 12 + 1) (by rw [hlen]) (.bool true)
    have a2 := at_mid a1 2 (by simp [ansV_len]) (k * 12 + 2) (by rw [hlen]) (.bool r.has)
    have a3 := at_mid a2 3 (by simp [ansV_len]) (k * 12 + 2 + 1) (by rw [hlen]) (.bool r.past)
    have a4 := at_mid a3 4 (by simp [ansV_len]) (k * 12 + 2 + 2) (by rw [hlen]) (.string r.key)
    have a5 := at_mid a4 5 (by simp [ansV_len]) (k * 12 + 2 + 3) (by rw [hlen]) (.int .u64 r.p)
    have a6 := at_mid a5 6 (by simp [ansV_len]) (k * 12 + 2 + 4) (by rw [hlen]) (.int .u32 r.l)
    have a7 := at_mid a6 7 (by simp [ansV_len]) (k * 12 + 2 + 5) (by rw [hlen]) (.int .u8 r.n)
    have a8 := at_mid a7 8 (by simp [ansV_len]) (k * 12 + 2 + 6) (by rw [hlen]) (.int .u8 r.kd)
    have a9 := at_mid a8 9 (by simp [ansV_len]) (k * 12 + 2 + 7) (by rw [hlen]) (.int .u32 r.fl)
    have a10 := at_mid a9 10 (by simp [ansV_len]) (k * 12 + 2 + 8) (by rw [hlen]) (.int .u64 r.ex)
    have a11 := at_mid a10 11 (by simp [ansV_len]) (k * 12 + 2 + 9) (by rw [hlen]) (.string r.bd)
    exact a11
theorem chg_set11 {w : World} {g o : Nat} {v1 v2 v3 v4 v5 v6 v7 v8 v9 v10 v11 : Value} {w0 : World} (h : Chg (· = g) w0 w) : Chg (· = g) w0 (((((((((((w.setCell ⟨g, o + 1, none⟩ v1).setCell ⟨g, o + 2, none⟩ v2).setCell ⟨g, o + 2 + 1, none⟩ v3).setCell ⟨g, o + 2 + 2, none⟩ v4).setCell ⟨g, o + 2 + 3, none⟩ v5).setCell ⟨g, o + 2 + 4, none⟩ v6).setCell ⟨g, o + 2 + 5, none⟩ v7).setCell ⟨g, o + 2 + 6, none⟩ v8).setCell ⟨g, o + 2 + 7, none⟩ v9).setCell ⟨g, o + 2 + 8, none⟩ v10).setCell ⟨g, o + 2 + 9, none⟩ v11) :=
  chg_set (chg_set (chg_set (chg_set (chg_set (chg_set (chg_set (chg_set (chg_set (chg_set (chg_set h rfl) rfl) rfl) rfl) rfl) rfl) rfl) rfl) rfl) rfl) rfl
theorem at_set11 {w : World} {b g o : Nat} {v1 v2 v3 v4 v5 v6 v7 v8 v9 v10 v11 : Value} {cs : Array Value} {t : TypeId} (h : At w b cs t) (hne : b ≠ g) : At (((((((((((w.setCell ⟨g, o + 1, none⟩ v1).setCell ⟨g, o + 2, none⟩ v2).setCell ⟨g, o + 2 + 1, none⟩ v3).setCell ⟨g, o + 2 + 2, none⟩ v4).setCell ⟨g, o + 2 + 3, none⟩ v5).setCell ⟨g, o + 2 + 4, none⟩ v6).setCell ⟨g, o + 2 + 5, none⟩ v7).setCell ⟨g, o + 2 + 6, none⟩ v8).setCell ⟨g, o + 2 + 7, none⟩ v9).setCell ⟨g, o + 2 + 8, none⟩ v10).setCell ⟨g, o + 2 + 9, none⟩ v11) b cs t :=
  at_set_ne (at_set_ne (at_set_ne (at_set_ne (at_set_ne (at_set_ne (at_set_ne (at_set_ne (at_set_ne (at_set_ne (at_set_ne h hne) hne) hne) hne) hne) hne) hne) hne) hne) hne) hne
/-! The kind of an answer, for the kit's words. -/
def kAn : Kd An := Kd.iso (Kd.pair (Kd.int .u8) (Kd.pair Kd.bool (Kd.pair Kd.bool (Kd.pair Kd.bool (Kd.pair Kd.string (Kd.pair (Kd.int .u64) (Kd.pair (Kd.int .u32) (Kd.pair (Kd.int .u8) (Kd.pair (Kd.int .u8) (Kd.pair (Kd.int .u32) (Kd.pair (Kd.int .u64) Kd.string))))))))))) (fun x : An => (x.node, x.come, x.r.has, x.r.past, x.r.key, x.r.p, x.r.l, x.r.n, x.r.kd, x.r.fl, x.r.ex, x.r.bd))
theorem kAn_openM {w : World} {base : Nat} {ok : Nat → Prop} {x : An} {cs : List Value} (h : kAn.M w base ok x cs) : cs = ansV x := by
  obtain ⟨_, _, rfl, rfl, _, _, rfl, rfl, _, _, rfl, rfl, _, _, rfl, rfl, _, _, rfl, rfl, _, _, rfl, rfl, _, _, rfl, rfl, _, _, rfl, rfl, _, _, rfl, rfl, _, _, rfl, rfl, _, _, rfl, rfl, rfl⟩ := h
  exact rfl
theorem kAn_mkM (w : World) (base : Nat) (ok : Nat → Prop) (x : An) : kAn.M w base ok x (ansV x) :=
  ⟨[_], _, rfl, rfl, [_], _, rfl, rfl, [_], _, rfl, rfl, [_], _, rfl, rfl, [_], _, rfl, rfl, [_], _, rfl, rfl, [_], _, rfl, rfl, [_], _, rfl, rfl, [_], _, rfl, rfl, [_], _, rfl, rfl, [_], _, rfl, rfl, rfl⟩
theorem infoAn : (Try.prog.info? 54).map (fun i => (i.zero, i.size, i.bytes)) = some (some (.agg #[(.int .u8 0), (.bool false), (.bool false), (.bool false), (.string ⟨#[]⟩), (.int .u64 0), (.int .u32 0), (.int .u8 0), (.int .u8 0), (.int .u32 0), (.int .u64 0), (.string ⟨#[]⟩)]), 12, 80) := by kernel_rfl
theorem reps_flat {w : World} {base : Nat} {ok : Nat → Prop} : ∀ (l : List An) (inner : List Value), Reps (kAn.M w base ok) kAn.sz l inner → inner.length = l.length * 12 → inner = flat l := by
  intro l inner h hl
  apply List.ext_getElem?
  intro i
  by_cases hi : i < l.length * 12
  · have hk : i / 12 < l.length := by omega
    have hp := h.2 (i / 12) l[i / 12] (List.getElem?_eq_getElem hk)
    have h3 := flat_at l (i / 12) hk (i % 12) (by omega)
    have e2 : i / 12 * 12 + i % 12 = i := by omega
    rw [e2] at h3
    rw [h3, ← kAn_openM hp]
    show _ = ((inner.drop (i / 12 * 12)).take 12)[i % 12]?
    rw [List.getElem?_take, if_pos (by omega), List.getElem?_drop, e2]
  · rw [List.getElem?_eq_none (by omega), List.getElem?_eq_none (by rw [flat_len]; omega)]
theorem row_of_R {w : World} {base : Nat} {ok : Nat → Prop} {v : Value} {l : List An} (h : kAn.R 54 w base ok v l) (hnil : l = [] → v = .slice none 0 0) : ∃ g, base ≤ g ∧ Row w g v l ∧ (0 < l.length → ok g) := by
  obtain ⟨h0, inner, ⟨hl, ho⟩, hr⟩ := h
  have hf := reps_flat l inner hr hl
  by_cases hn : l = []
  · exact ⟨base, Nat.le_refl _, .inl ⟨hnil hn, hn⟩, fun h => by rw [hn] at h; simp at h⟩
  have hn' : 0 < l.length := List.length_pos_iff.2 hn
  rcases ho with ⟨rfl, hz⟩ | ⟨g, cap, cur, rfl, hb, hg, hc, hm, hs, ht⟩
  · omega
  · refine ⟨g, hb, .inr ⟨cap, cur.toList.drop (l.length * 12), rfl, hn', hc, ?_⟩, fun _ => h0 g rfl⟩
    show w.heap[g]? = _
    rw [hg, ← hf, ← ht]
    have e : kAn.sz = 12 := rfl
    rw [e, List.take_append_drop]
end Go.Proofs.Ytnbcbokdbenbiaa.Ask

/- Rows that came in, read as lists; the table of tens as the row lays it (own text). -/
import Derived.Test.YtbgoedhpndflpaaDoorSayOpen
import Derived.Test.YtbgoedhpndflpaaDoorSayItems
import Derived.MakeChecks
namespace Go.Proofs.YtbgoedhpndflpaaDoor.Opener
open Go.RowKit Go.ChangeShapes Go.WideShapes Go.Deep Go.Proofs.YtbgoedhpndflpaaDoorW.PrintWords
set_option linter.unusedVariables false
set_option linter.unusedSimpArgs false
theorem cells_String : Tryd.prog.cellsOf 9 = 1 := by kernel_rfl
theorem cells_U64 : Tryd.prog.cellsOf 25 = 1 := by kernel_rfl
section
variable {H : Type} {enc : TypeId × Value → H} {w : World} {base : Nat} {spare : Nat → Bool} {held : Bool}
def IsString (cs : List Value) : Prop := ∃ s : ByteArray, cs = [.string s]
theorem String_cells {fuel : Nat} {cs : List Value} {x : DataW H × List MemPlace} (h : DataW.trod enc Tryd.prog w base spare held fuel 9 cs = some x) : IsString cs := by
  obtain ⟨a, e, _, _⟩ := DataW.trod_string Tryd.underlying9 h
  exact ⟨a, e⟩
def IsU64 (cs : List Value) : Prop := ∃ n : Int, cs = [.int .u64 n] ∧ 0 ≤ n ∧ n ≤ 18446744073709551615
theorem U64_cells {fuel : Nat} {cs : List Value} {x : DataW H × List MemPlace} (h : DataW.trod enc Tryd.prog w base spare held fuel 25 cs = some x) : IsU64 cs := by
  obtain ⟨a, e, _, w0⟩ := DataW.trod_int Tryd.underlying25 h
  exact ⟨a, e, bounds_u64 w0⟩
end
/-- A row of cells, each of a kind, read as a list. -/
theorem list_ofN {α : Type} (d : Kd α) (P : α → Prop) (R : List Value → Prop) (n1 : Nat) (hsz : d.sz = n1) {w : World} (hR : ∀ cs, R cs → ∃ x, d.K w x cs ∧ P x) {b off : Nat} :
    ∀ n : Nat, (∀ i, i < n → ∃ cs, R cs ∧ cs.length = n1 ∧ ∀ j, j < n1 → w.cell? ⟨b, off + (i * n1 + j), none⟩ = cs[j]?) →
    ∃ l : List α, l.length = n ∧ (∀ x, x ∈ l → P x) ∧ ∀ (j : Nat) (p : α), l[j]? = some p → ∃ c : List Value, c.length = d.sz ∧ d.K w p c ∧ ∀ (i : Nat) (u : Value), c[i]? = some u → w.cell? (Addr.add ⟨b, off, none⟩ (j * d.sz + i)) = some u := by
  intro n
  induction n with
  | zero => intro _; exact ⟨[], rfl, fun x h => absurd h (by simp), fun j p h => by simp at h⟩
  | succ n ih =>
    intro h
    obtain ⟨l, hl, hP, hr⟩ := ih (fun i hi => h i (by omega))
    obtain ⟨cs, hc, hlen, hcell⟩ := h n (by omega)
    obtain ⟨x, hx, hp⟩ := hR cs hc
    refine ⟨l ++ [x], by rw [List.length_append, hl]; rfl, fun y hy => ?_, fun j p hjp => ?_⟩
    · rcases List.mem_append.1 hy with h1 | h1
      · exact hP y h1
      · rw [List.mem_singleton] at h1; rw [h1]; exact hp
    · rcases Nat.lt_or_ge j l.length with hj | hj
      · rw [List.getElem?_append_left hj] at hjp
        exact hr j p hjp
      · rw [List.getElem?_append_right hj] at hjp
        obtain ⟨rfl, rfl⟩ : j = n ∧ x = p := by
          rcases Nat.lt_or_ge (j - l.length) 1 with h1 | h1
          · have e : j - l.length = 0 := by omega
            rw [e] at hjp
            exact ⟨by omega, by simpa using hjp⟩
          · rw [List.getElem?_eq_none (by simpa using h1)] at hjp; cases hjp
        refine ⟨cs, by rw [hsz]; exact hlen, hx, fun i u hu => ?_⟩
        have hi : i < n1 := by
          rcases Nat.lt_or_ge i n1 with h1 | h1
          · exact h1
          · rw [List.getElem?_eq_none (by rw [hlen]; exact h1)] at hu; cases hu
        have h2 := hcell i hi
        rw [hu] at h2
        rw [hsz, Go.WideShapes.add_plain]
        exact h2
theorem C_ofN {α : Type} (d : Kd α) (P : α → Prop) (R : List Value → Prop) (n1 : Nat) (hsz : d.sz = n1) {w : World} (hR : ∀ cs, R cs → ∃ x, d.K w x cs ∧ P x) {A : Option Addr} {len cap : Nat}
    (r : len ≤ cap ∧ cap ≤ maxLen ∧ (0 < len → ∃ b off, A = some ⟨b, off, none⟩ ∧ b < w.heap.size ∧ ∀ i, i < len → ∃ cs, R cs ∧ cs.length = n1 ∧ ∀ j, j < n1 → w.cell? ⟨b, off + (i * n1 + j), none⟩ = cs[j]?)) :
    ∃ l : List α, l.length = len ∧ (∀ x, x ∈ l → P x) ∧ d.C w A l.length l ∧ l.length ≤ cap := by
  obtain ⟨hlc, hcm, hrow⟩ := r
  unfold maxLen at hcm
  by_cases h0 : len = 0
  · exact ⟨[], h0.symm, fun x h => absurd h (by simp), ⟨rfl, by simp, fun h => absurd h (by simp)⟩, by simp⟩
  · obtain ⟨b, off, hA, hb, hc⟩ := hrow (by omega)
    obtain ⟨l, hl, hP, hr⟩ := list_ofN d P R n1 hsz hR len hc
    exact ⟨l, hl, hP, ⟨rfl, by omega, fun _ => ⟨_, hA, hr⟩⟩, by omega⟩
theorem recs_of {w : World} {A : Option Addr} {len cap : Nat} (r : len ≤ cap ∧ cap ≤ maxLen ∧ (0 < len → ∃ b off, A = some ⟨b, off, none⟩ ∧ b < w.heap.size ∧ ∀ i, i < len → ∃ cs, IsRec cs ∧ cs.length = 8 ∧ ∀ j, j < 8 → w.cell? ⟨b, off + (i * 8 + j), none⟩ = cs[j]?)) :
    ∃ l : List PSay.S30, l.length = len ∧ (∀ x, x ∈ l → (0 ≤ x.f3 ∧ x.f3 ≤ 4294967295) ∧ (0 ≤ x.f4 ∧ x.f4 ≤ 18446744073709551615) ∧ (0 ≤ x.f2 ∧ x.f2 ≤ 255) ∧ (0 ≤ x.f1.f0 ∧ x.f1.f0 ≤ 18446744073709551615) ∧ (0 ≤ x.f1.f1 ∧ x.f1.f1 ≤ 4294967295) ∧ (0 ≤ x.f1.f2 ∧ x.f1.f2 ≤ 255)) ∧ PSay.k30.C w A l.length l ∧ l.length ≤ cap :=
  C_ofN PSay.k30 _ IsRec 8 rfl (fun cs h => by
    obtain ⟨key, p, l, n, kind, flags, expiry, body, rfl, _, hp, hl, hn, hk, hf, he, _⟩ := h
    exact ⟨⟨key, ⟨p, l, n⟩, kind, flags, expiry, body⟩, PSay.k30_mk w ⟨key, ⟨p, l, n⟩, kind, flags, expiry, body⟩, hf, he, hk, hp, hl, hn⟩) r
theorem strs_of {w : World} {A : Option Addr} {len cap : Nat} (r : len ≤ cap ∧ cap ≤ maxLen ∧ (0 < len → ∃ b off, A = some ⟨b, off, none⟩ ∧ b < w.heap.size ∧ ∀ i, i < len → ∃ cs, IsString cs ∧ cs.length = 1 ∧ ∀ j, j < 1 → w.cell? ⟨b, off + (i * 1 + j), none⟩ = cs[j]?)) :
    ∃ l : List ByteArray, l.length = len ∧ (∀ x, x ∈ l → True) ∧ Kd.string.C w A l.length l ∧ l.length ≤ cap :=
  C_ofN Kd.string (fun _ => True) IsString 1 rfl (fun cs h => by
    obtain ⟨s, rfl⟩ := h
    exact ⟨s, rfl, trivial⟩) r
theorem u64s_of {w : World} {A : Option Addr} {len cap : Nat} (r : len ≤ cap ∧ cap ≤ maxLen ∧ (0 < len → ∃ b off, A = some ⟨b, off, none⟩ ∧ b < w.heap.size ∧ ∀ i, i < len → ∃ cs, IsU64 cs ∧ cs.length = 1 ∧ ∀ j, j < 1 → w.cell? ⟨b, off + (i * 1 + j), none⟩ = cs[j]?)) :
    ∃ l : List Int, l.length = len ∧ (∀ x, x ∈ l → 0 ≤ x ∧ x < 18446744073709551616) ∧ (Kd.int .u64).C w A l.length l ∧ l.length ≤ cap :=
  C_ofN (Kd.int .u64) _ IsU64 1 rfl (fun cs h => by
    obtain ⟨n, rfl, h0, h1⟩ := h
    exact ⟨n, rfl, h0, by omega⟩) r
end Go.Proofs.YtbgoedhpndflpaaDoor.Opener
namespace Go.Proofs.YtbgoedhpndflpaaDoor.Say
open Go.RowKit
theorem tab_laid {W : World} {x1 x2 : String × DataW Unit} {rest : List (String × DataW Unit)} (h : laidMet Tryd.prog (x1 :: x2 :: ("internal/strconv.uint64pow10", Lib.tabData .u64 Lib.pow10Tab) :: rest) W) : Tab W := by
  obtain ⟨ps, h0, _⟩ := h
  obtain ⟨_, _, _, _, _, q1, _, _, _, _, h1, _⟩ := h0
  obtain ⟨_, _, _, _, _, q2, _, _, _, _, h2, _⟩ := h1
  obtain ⟨g, t, cs, fuel, p, q, hg, ht, hvar, hd, _, _⟩ := h2
  have e1 : Tryd.prog.globalNamed "internal/strconv.uint64pow10" = some 0 := by kernel_rfl
  obtain rfl := Option.some.inj (e1.symm.trans hg)
  have e2 : (Tryd.prog.globals[0]?).map (·.type) = some 79 := by kernel_rfl
  obtain rfl := Option.some.inj (e2.symm.trans ht)
  unfold Tab Lib.TabIs
  rw [hvar, ← Lib.cells_of_tab Tryd.underlying79 Tryd.underlying25 Opener.cells_U64 (by kernel_rfl) hd]
end Go.Proofs.YtbgoedhpndflpaaDoor.Say

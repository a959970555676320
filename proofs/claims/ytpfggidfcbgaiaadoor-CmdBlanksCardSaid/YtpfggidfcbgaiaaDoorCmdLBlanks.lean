/- CmdBlanks: the plain law, and the walk (own text). -/
import Derived.Test.YtpfggidfcbgaiaaDoorPCmdBlanksx1
import Derived.Test.YtpfggidfcbgaiaaDoorCmdWords
import Derived.Test.YtpfggidfcbgaiaaDoorBasicOpen
namespace Go.Proofs.YtpfggidfcbgaiaaDoor.CmdLBlanks
open Go.RowKit Go.Proofs.YtpfggidfcbgaiaaDoorW.PrintWords Go.Proofs.YtpfggidfcbgaiaaDoorW.PrintLast Go.Proofs.YtpfggidfcbgaiaaDoorW.PrintMore Go.Proofs.YtpfggidfcbgaiaaDoor.Split Go.Proofs.YtpfggidfcbgaiaaDoor.Cmd Go.Proofs.YtpfggidfcbgaiaaDoor.PCmdBlanks
set_option linter.unusedVariables false
set_option linter.unusedSimpArgs false
theorem blank7 (n : Nat) (h : n ≤ 7) : ((⟨#[32, 32, 32, 32, 32, 32, 32]⟩ : ByteArray).extract 0 n).data.toList = List.replicate n 32 ∧ ((⟨#[32, 32, 32, 32, 32, 32, 32]⟩ : ByteArray).extract 0 n).size = n := by
  have : n = 0 ∨ n = 1 ∨ n = 2 ∨ n = 3 ∨ n = 4 ∨ n = 5 ∨ n = 6 ∨ n = 7 := by omega
  rcases this with rfl | rfl | rfl | rfl | rfl | rfl | rfl | rfl <;> exact ⟨rfl, rfl⟩
theorem sp : (⟨#[32]⟩ : ByteArray).data.toList = [32] ∧ (⟨#[32]⟩ : ByteArray).size = 1 := ⟨rfl, rfl⟩
theorem loop (l1 : List Int) (h1 : ∀ x, x ∈ l1 → 0 ≤ x ∧ x ≤ 255) (l : List ByteArray) (hl : l.length ≤ 30) :
    ∀ (d i k : Nat) (a b : ByteArray), l.length - i = d → i ≤ l.length → d < k → EndB a.data.toList → EndB b.data.toList → wordsL a.data.toList = wordsL b.data.toList → a.size ≤ 400 * i → b.size ≤ 400 * i + 1 →
      tattlerlaw07_CmdBlanks.l0 k l1 a b l (l.length : Int) (i : Int) = some true := by
  intro d
  induction d with
  | zero =>
    intro i k a b hd hi hk ea eb hw za zb
    obtain ⟨k, rfl⟩ : ∃ m, k = m + 1 := ⟨k - 1, by omega⟩
    have ew : wordsB a = wordsB b := by rw [wordsB_map, wordsB_map, hw]
    rw [tattlerlaw07_CmdBlanks.l0, if_neg (by omega)]
    unfold cmd_Parse.f
    rw [if_pos (by omega), if_pos (by omega), ew, Option.bind_some, Option.bind_some]
    simp only [tattlerlaw07_fixed.f, tattlerref07_Same.f, Option.bind_some]
    generalize parseP (wordsB b) = p
    have es : Cmd.sameP p.1 p.2.1 p.2.2.1 p.2.2.2.1 p.2.2.2.2.1 p.2.2.2.2.2.1 p.2.2.2.2.2.2.1 p.1 p.2.1 p.2.2.1 p.2.2.2.1 p.2.2.2.2.1 p.2.2.2.2.2.1 p.2.2.2.2.2.2.1 = true := decide_eq_true ⟨rfl, rfl, rfl, rfl, rfl, rfl, rfl⟩
    rw [if_pos trivial, es, if_pos rfl, beq_self_eq_true]
  | succ d ih =>
    intro i k a b hd hi hk ea eb hw za zb
    obtain ⟨k, rfl⟩ : ∃ m, k = m + 1 := ⟨k - 1, by omega⟩
    have hlt : i < l.length := by omega
    have e2 : wrap64 ((i : Int) + 1) = ((i + 1 : Nat) : Int) := by rw [w64 (by omega) (by omega)]; omega
    rw [tattlerlaw07_CmdBlanks.l0, if_pos (by omega), if_pos (by omega), if_pos (by omega), rd_at l i hlt, e2]
    generalize l[i] = x
    by_cases hx : (x.size : Int) > 300
    · rw [if_pos hx]; rfl
    · have z1 : (x ++ (⟨#[32]⟩ : ByteArray)).size = x.size + 1 := by rw [size_app]; rfl
      rw [if_neg hx, z1, if_pos (by omega), if_pos (by omega), if_pos (by omega)]
      have da : (a ++ (x ++ (⟨#[32]⟩ : ByteArray))).data.toList = a.data.toList ++ (x.data.toList ++ 32 :: List.replicate 0 32) := by rw [data_app, data_app, sp.1]; rfl
      have db : (b ++ (x ++ (⟨#[32]⟩ : ByteArray))).data.toList = b.data.toList ++ (x.data.toList ++ 32 :: List.replicate 0 32) := by rw [data_app, data_app, sp.1]; rfl
      have sa : (a ++ (x ++ (⟨#[32]⟩ : ByteArray))).size = a.size + (x.size + 1) := by rw [size_app, z1]
      have sb : (b ++ (x ++ (⟨#[32]⟩ : ByteArray))).size = b.size + (x.size + 1) := by rw [size_app, z1]
      have ea' : EndB (a ++ (x ++ (⟨#[32]⟩ : ByteArray))).data.toList := by rw [da, ← List.append_assoc]; exact endB_blanks _ 0
      have wa : wordsL (a ++ (x ++ (⟨#[32]⟩ : ByteArray))).data.toList = wordsL a.data.toList ++ wordsL x.data.toList := by rw [da]; exact wordsL_end ea _ 0
      by_cases hb : (i : Int) < (l1.length : Int)
      · have hib : i < l1.length := by omega
        have hm := h1 l1[i] (List.getElem_mem hib)
        have hr : rd l1 (i : Int) = l1[i] := by
          unfold rd
          rw [Int.toNat_natCast, List.getD_eq_getElem?_getD, List.getElem?_eq_getElem hib]; rfl
        obtain ⟨m, hm'⟩ := Int.eq_ofNat_of_zero_le hm.1
        have et : Int.tmod (rd l1 (i : Int)) 8 = ((m % 8 : Nat) : Int) := by rw [hr, hm']; rfl
        obtain ⟨p1, p2⟩ := blank7 (m % 8) (by omega)
        rw [if_pos hb, et, if_pos (by omega), if_pos (by omega), Int.toNat_natCast, p2, sb, if_pos (by omega)]
        have db2 : ((b ++ (x ++ (⟨#[32]⟩ : ByteArray))) ++ ((⟨#[32, 32, 32, 32, 32, 32, 32]⟩ : ByteArray).extract 0 (m % 8))).data.toList = b.data.toList ++ (x.data.toList ++ 32 :: List.replicate (m % 8) 32) := by
          rw [data_app, db, p1]; simp
        refine ih (i + 1) k _ _ (by omega) (by omega) (by omega) ea' ?_ ?_ (by rw [sa]; omega) (by rw [size_app, sb, p2]; omega)
        · rw [db2, ← List.append_assoc]; exact endB_blanks _ _
        · rw [wa, db2, wordsL_end eb, hw]
      · rw [if_neg hb]
        refine ih (i + 1) k _ _ (by omega) (by omega) (by omega) ea' ?_ ?_ (by rw [sa]; omega) (by rw [sb]; omega)
        · rw [db, ← List.append_assoc]; exact endB_blanks _ 0
        · rw [wa, db, wordsL_end eb, hw]
theorem law (l : List ByteArray) (l1 : List Int) (h1 : ∀ x, x ∈ l1 → 0 ≤ x ∧ x ≤ 255) : ∃ k, tattlerlaw07_CmdBlanks.f k l l1 = some true := by
  refine ⟨l.length + 1, ?_⟩
  unfold tattlerlaw07_CmdBlanks.f
  by_cases h : (l.length : Int) > 30
  · rw [if_pos h]; rfl
  · rw [if_neg h]
    exact loop l1 h1 l (by omega) l.length 0 (l.length + 1) _ _ rfl (by omega) (by omega) (Or.inl rfl) (Or.inr ⟨[], rfl⟩) (by rw [show (⟨#[32]⟩ : ByteArray).data.toList = 32 :: [] from rfl, wordsL_blank]) (by decide) (by decide)
theorem walk (A0 : Option Addr) (n0 c0 : Nat) (A1 : Option Addr) (n1 c1 : Nat) (w : World)
    (r0 : n0 ≤ c0 ∧ c0 ≤ maxLen ∧ (0 < n0 → ∃ b off, A0 = some ⟨b, off, none⟩ ∧ b < w.heap.size ∧ ∀ i, i < n0 → ∃ cs, Opener.IsString cs ∧ cs.length = 1 ∧ ∀ j, j < 1 → w.cell? ⟨b, off + (i * 1 + j), none⟩ = cs[j]?))
    (r1 : n1 ≤ c1 ∧ c1 ≤ maxLen ∧ (0 < n1 → ∃ b off, A1 = some ⟨b, off, none⟩ ∧ b < w.heap.size ∧ ∀ i, i < n1 → ∃ cs, Opener.IsU8 cs ∧ cs.length = 1 ∧ ∀ j, j < 1 → w.cell? ⟨b, off + (i * 1 + j), none⟩ = cs[j]?)) :
    Calls Tryd.prog 4 #[.slice A0 n0 c0, .slice A1 n1 c1] w fun e w' => e = .returned (.bool true) ∧ Below w.heap.size w w' := by
  obtain ⟨l0, e0, _, h0, k0⟩ := Opener.C_of Kd.string (fun _ => True) Opener.IsString rfl (w := w) (fun cs ⟨s, e⟩ => ⟨s, e, trivial⟩) r0
  obtain ⟨l1, e1, p1, h1, k1⟩ := Opener.C_of (Kd.int .u8) (fun x => 0 ≤ x ∧ x ≤ 255) Opener.IsU8 rfl (w := w) (fun cs ⟨s, e, h⟩ => ⟨s, e, h⟩) r1
  obtain ⟨k, hk⟩ := law l0 l1 p1
  have h := tattlerlaw07_CmdBlanks.calls k A0 c0 l0 A1 c1 l1 true w h0 k0 h1 k1 hk
  rw [e0, e1] at h
  exact h
end Go.Proofs.YtpfggidfcbgaiaaDoor.CmdLBlanks

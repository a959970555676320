/- As many calls as are gone through; one call's step (own text). -/
import Derived.Test.YtcidckcdfacplaaHlcFixed
import Derived.Test.YtcidckcdfacplaaHlcOpen
namespace Go.Proofs.Ytcidckcdfacplaa.Hlc
open Go.RowKit Go.Proofs.Ytcidckcdfacplaa.Mem
set_option linter.unusedVariables false
set_option linter.unusedSimpArgs false

set_option maxHeartbeats 400000 in
theorem cut_few (a : Option Addr) (len cap : Nat) (w : World) (h0 : len ≤ cap) (h1 : cap ≤ maxLen) (h : len ≤ 300) :
    Calls Try.prog 14 #[.slice a len cap] w fun e w' => e = .returned (.slice a len cap) ∧ w = w' := by
  unfold maxLen at h1
  have c1 : decide ((300 : Int) < len) = false := by simp; omega
  go_enter Try.func14, Try.ntmps14
  go_wp2
  go_ret
  exact ⟨rfl, rfl⟩

set_option maxHeartbeats 400000 in
theorem cut_many (a : Option Addr) (len cap : Nat) (w : World) (h0 : len ≤ cap) (h1 : cap ≤ maxLen) (h : 300 < len) :
    Calls Try.prog 14 #[.slice a len cap] w fun e w' => e = .returned (.slice a 300 cap) ∧ w = w' := by
  unfold maxLen at h1
  have c1 : decide ((300 : Int) < len) = true := by simp; omega
  go_enter Try.func14, Try.ntmps14
  go_wp2
  go_ret
  exact ⟨rfl, rfl⟩

def cutL (len : Nat) : Nat := if 300 < len then 300 else len
theorem cutL_le (len : Nat) : cutL len ≤ len := by unfold cutL; split <;> omega
theorem cut_any (a : Option Addr) (len cap : Nat) (w : World) (h0 : len ≤ cap) (h1 : cap ≤ maxLen) :
    Calls Try.prog 14 #[.slice a len cap] w fun e w' => e = .returned (.slice a (cutL len) cap) ∧ w = w' := by
  unfold cutL
  split
  · exact cut_many a len cap w h0 h1 ‹_›
  · exact cut_few a len cap w h0 h1 (by omega)
/-- A row of calls among the arguments. -/
def OpsAt (w : World) (a : Option Addr) (len cap : Nat) : Prop := len ≤ cap ∧ cap ≤ maxLen ∧ (0 < len → ∃ b off, a = some ⟨b, off, none⟩ ∧ b < w.heap.size ∧
  ∀ i, i < len → ∃ cs, Opener.IsHOp cs ∧ cs.length = 5 ∧ ∀ j, j < 5 → w.cell? ⟨b, off + (i * 5 + j), none⟩ = cs[j]?)
/-- One call: its kind, its number, its stamp. -/
theorem ops_at {w : World} {a : Option Addr} {len cap i : Nat} (h : OpsAt w a len cap) (hi : i < len) :
    ∃ (b off : Nat) (k m p l n : Int), a = some ⟨b, off, none⟩ ∧ b < w.heap.size ∧ w.cell? ⟨b, off + i * 5, none⟩ = some (.int .i64 k) ∧ w.cell? ⟨b, off + i * 5 + 1, none⟩ = some (.int .i64 m) ∧
      w.cell? ⟨b, off + i * 5 + 2, none⟩ = some (.int .u64 p) ∧ w.cell? ⟨b, off + i * 5 + 3, none⟩ = some (.int .u32 l) ∧ w.cell? ⟨b, off + i * 5 + 4, none⟩ = some (.int .u8 n) ∧
      (-9223372036854775808 ≤ k ∧ k ≤ 9223372036854775807) ∧ (-9223372036854775808 ≤ m ∧ m ≤ 9223372036854775807) ∧ (0 ≤ p ∧ p ≤ 18446744073709551615) ∧ (0 ≤ l ∧ l ≤ 4294967295) ∧ (0 ≤ n ∧ n ≤ 255) := by
  obtain ⟨b, off, ha, hb, hc⟩ := h.2.2 (by omega)
  obtain ⟨cs, ⟨k, m, p, l, n, rfl, r⟩, _, hj⟩ := hc i hi
  exact ⟨b, off, k, m, p, l, n, ha, hb, hj 0 (by omega), hj 1 (by omega), hj 2 (by omega), hj 3 (by omega), hj 4 (by omega), r⟩
/-- What one call leaves of a clock. -/
def stepC (c : Clk) (k m p l n : Int) : Clk := if k = 0 then (nowC c).2.2 else if k = 1 then (seeC c p l n).2 else passC c m
theorem good_step {c : Clk} (h : Good c) {k m p l n : Int} (hp : 0 ≤ p) (hl : 0 ≤ l) (hl1 : l ≤ 4294967295) (hn : 0 ≤ n) : Good (stepC c k m p l n) := by
  unfold stepC
  split
  · exact good_now h
  split
  · exact good_see h hp hl hl1 hn
  · exact good_pass h m
theorem now_fix (c : Clk) : (nowC c).2.2.node = c.node ∧ (nowC c).2.2.drift = c.drift ∧ (nowC c).2.2.start = c.start ∧ (nowC c).2.2.rest = c.rest ∧ (nowC c).2.2.time = c.time := by
  unfold nowC; (repeat' split) <;> exact ⟨rfl, rfl, rfl, rfl, rfl⟩
theorem see_fix (c : Clk) (p l n : Int) : (seeC c p l n).2.node = c.node ∧ (seeC c p l n).2.drift = c.drift ∧ (seeC c p l n).2.start = c.start ∧ (seeC c p l n).2.rest = c.rest ∧ (seeC c p l n).2.time = c.time := by
  unfold seeC; (repeat' split) <;> exact ⟨rfl, rfl, rfl, rfl, rfl⟩
theorem pass_fix (c : Clk) (m : Int) : (passC c m).node = c.node ∧ (passC c m).drift = c.drift ∧ (passC c m).start = c.start ∧ (passC c m).rest = c.rest ∧ (passC c m).p = c.p ∧ (passC c m).l = c.l ∧ (passC c m).n = c.n := by
  unfold passC; split <;> exact ⟨rfl, rfl, rfl, rfl, rfl, rfl, rfl⟩
theorem step_fix (c : Clk) (k m p l n : Int) : (stepC c k m p l n).node = c.node ∧ (stepC c k m p l n).drift = c.drift ∧ (stepC c k m p l n).start = c.start ∧ (stepC c k m p l n).rest = c.rest := by
  unfold stepC
  split
  · have := now_fix c; exact ⟨this.1, this.2.1, this.2.2.1, this.2.2.2.1⟩
  split
  · have := see_fix c p l n; exact ⟨this.1, this.2.1, this.2.2.1, this.2.2.2.1⟩
  · have := pass_fix c m; exact ⟨this.1, this.2.1, this.2.2.1, this.2.2.2.1⟩
end Go.Proofs.Ytcidckcdfacplaa.Hlc

/- AskOver: every input (own text). -/
import Derived.Test.YtnbcbokdbenbiaaAskOverL
import Derived.Test.YtnbcbokdbenbiaaAskU8
namespace Go.Proofs.Ytnbcbokdbenbiaa.Ask
open Go.RowKit Go.Proofs.Ytnbcbokdbenbiaa.Mem Go.Lib Go.Proofs.YtnbcbokdbenbiaaW.PrintWords
set_option linter.unusedVariables false
set_option linter.unusedSimpArgs false
set_option maxRecDepth 100000 in
set_option maxHeartbeats 1600000 in
theorem over_great (A : Option Addr) (len cap : Nat) (u now : Int) (r : Rep) (w : World) (h : 100 < len ∨ 1000 < r.key.size ∨ 3000 < r.bd.size) :
    Calls Try.prog 5 #[.slice A len cap, .int .u64 u, .int .u64 now, repV r] w fun e w' => e = .returned (.bool true) ∧ Below w.heap.size w w' := by
  obtain ⟨has, past, key, p, la, no, kd, fl, ex, bd⟩ := r
  simp only at h
  unfold repV
  simp only
  have ay := at_new w #[.bool has, .bool past, .string key, .int .u64 p, .int .u32 la, .int .u8 no, .int .u8 kd, .int .u32 fl, .int .u64 ex, .string bd] 34
  have y2 := ay.cell 2
  have y9 := ay.cell 9
  by_cases h1 : 100 < len
  · have c1 : decide ((100 : Int) < (len : Int)) = true := decide_eq_true (by omega)
    clear h
    go_enter Try.func5, Try.ntmps5
    go_wp2_with (fail)
    refine (fixed_any _).mono ?_
    rintro e w1 ⟨rfl, hb1⟩
    go_wp2_with (fail)
    go_ret
    exact ⟨rfl, below_on (below_al (Below.refl _ _)) hb1⟩
  have c1 : decide ((100 : Int) < (len : Int)) = false := decide_eq_false (by omega)
  by_cases h2 : 1000 < key.size
  · have c2 : decide ((1000 : Int) < (key.size : Int)) = true := decide_eq_true (by omega)
    clear h
    go_enter Try.func5, Try.ntmps5
    go_wp2_with (fail)
    refine (fixed_any _).mono ?_
    rintro e w1 ⟨rfl, hb1⟩
    go_wp2_with (fail)
    go_ret
    exact ⟨rfl, below_on (below_al (Below.refl _ _)) hb1⟩
  have c2 : decide ((1000 : Int) < (key.size : Int)) = false := decide_eq_false (by omega)
  have c3 : decide ((3000 : Int) < (bd.size : Int)) = true := decide_eq_true (by omega)
  clear h
  go_enter Try.func5, Try.ntmps5
  go_wp2_with (fail)
  refine (fixed_any _).mono ?_
  rintro e w1 ⟨rfl, hb1⟩
  go_wp2_with (fail)
  go_ret
  exact ⟨rfl, below_on (below_al (Below.refl _ _)) hb1⟩
theorem over_nil_comes (u now : Int) : (decide (u ≤ now) || comes (newA [])) = true := by simp [newA, dedup, fresh, comes]
set_option maxRecDepth 100000 in
set_option maxHeartbeats 1600000 in
theorem over_nil (A : Option Addr) (cap : Nat) (u now : Int) (r : Rep) (w : World) (hk : r.key.size ≤ 1000) (hbd : r.bd.size ≤ 3000) :
    Calls Try.prog 5 #[.slice A 0 cap, .int .u64 u, .int .u64 now, repV r] w fun e w' => e = .returned (.bool true) ∧ Below w.heap.size w w' := by
  obtain ⟨has, past, key, p, la, no, kd, fl, ex, bd⟩ := r
  simp only at hk hbd
  unfold repV
  simp only
  have ay := at_new w #[.bool has, .bool past, .string key, .int .u64 p, .int .u32 la, .int .u8 no, .int .u8 kd, .int .u32 fl, .int .u64 ex, .string bd] 34
  have c1 : decide ((1000 : Int) < (key.size : Int)) = false := decide_eq_false (by omega)
  have c2 : decide ((3000 : Int) < (bd.size : Int)) = false := decide_eq_false (by omega)
  have HW := Lib.hid (new_any [] A cap u (w.alloc (.cells #[.bool has, .bool past, .string key, .int .u64 p, .int .u32 la, .int .u8 no, .int .u8 kd, .int .u32 fl, .int .u64 ex, .string bd] 34)) (by simp) (fun h => by simp at h))
  have hb0 := below_al (o := .cells #[.bool has, .bool past, .string key, .int .u64 p, .int .u32 la, .int .u8 no, .int .u8 kd, .int .u32 fl, .int .u64 ex, .string bd] 34) (Below.refl w.heap.size w)
  have o1 := fun (b g : Nat) (W : World) (h : Req W b g u (newA [])) => over_any b g u now (newA []) W h
  have o2 := fun (b g : Nat) (W : World) (h : Req W b g u (newA [])) => over_any b g u 0 (newA []) W h
  have o3 := fun (b g : Nat) (W : World) (h : Req W b g u (newA [])) => yes_any b g u (newA []) W h
  rw [over_nil_comes] at o1 o2
  rw [show yesN (newA []) = 0 from rfl] at o3
  have O1 := Lib.hid o1
  have O2 := Lib.hid o2
  have O3 := Lib.hid o3
  have hmm := @run_makeMap Try.prog
  clear o1 o2 o3
  go_enter Try.func5, Try.ntmps5
  have y2 := ay.cell 2
  have y9 := ay.cell 9
  go_wp2_with (fail)
  refine (HW.out).mono ?_
  rintro e w1 ⟨g, rfl, hq1, hbg, hg1, hb1⟩
  have HQ1 := Lib.hid (req_below hq1 (below_al (o := .map #[] 0) (Below.refl _ _)))
  have HB1 := Lib.hid (below_al (o := .map #[] 0) (below_on hb0 hb1))
  clear hq1 hb1 hb0 ay y2 y9 HW hbg
  generalize (w.alloc (.cells #[.bool has, .bool past, .string key, .int .u64 p, .int .u32 la, .int .u8 no, .int .u8 kd, .int .u32 fl, .int .u64 ex, .string bd] 34)).heap.size = b at *
  go_upto_region 8 with (fail)
  go_rounds 1
  refine wp_loop_rounds 1 ?_
  rw [rounds_succ]
  go_wp2_with (fail)
  refine (fixed_any _).mono ?_
  rintro e w5 ⟨rfl, hb5⟩
  go_wp2_with (fail)
  refine (O1.out b g _ (req_below HQ1.out hb5)).mono ?_
  rintro e w6 ⟨rfl, hb6⟩
  go_wp2_with (fail)
  refine (O2.out b g _ (req_below (req_below HQ1.out hb5) hb6)).mono ?_
  rintro e w7 ⟨rfl, hb7⟩
  go_wp2_with (fail)
  refine (O3.out b g _ (req_below (req_below (req_below HQ1.out hb5) hb6) hb7)).mono ?_
  rintro e w8 ⟨rfl, hb8⟩
  go_wp2_with (fail)
  go_ret
  exact ⟨rfl, below_on (below_on (below_on (below_on HB1.out hb5) hb6) hb7) hb8⟩
theorem over_walk (A : Option Addr) (len cap : Nat) (u now : Int) (r : Rep) (w : World)
    (h : len ≤ cap ∧ cap ≤ maxLen ∧ (0 < len → ∃ b off, A = some ⟨b, off, none⟩ ∧ b < w.heap.size ∧ ∀ i, i < len → ∃ cs, Opener.IsU8 cs ∧ cs.length = 1 ∧ ∀ j, j < 1 → w.cell? ⟨b, off + (i * 1 + j), none⟩ = cs[j]?)) :
    Calls Try.prog 5 #[.slice A len cap, .int .u64 u, .int .u64 now, repV r] w fun e w' => e = .returned (.bool true) ∧ Below w.heap.size w w' := by
  by_cases hg : 100 < len ∨ 1000 < r.key.size ∨ 3000 < r.bd.size
  · exact over_great A len cap u now r w hg
  · obtain ⟨ns, hl, hr, hn⟩ := Opener.nodes_of h
    subst hl
    by_cases h0 : 0 < ns.length
    · obtain ⟨nb, off, rfl, hb, hc⟩ := hn h0
      exact over_row ns nb off cap u now r w (by omega) hb hc hr (by omega) (by omega)
    · have e : ns = [] := List.eq_nil_of_length_eq_zero (by omega)
      subst e
      exact over_nil A cap u now r w (by omega) (by omega)
end Go.Proofs.Ytnbcbokdbenbiaa.Ask

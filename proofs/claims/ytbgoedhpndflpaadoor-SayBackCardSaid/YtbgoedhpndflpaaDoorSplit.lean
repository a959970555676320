/- strings.Split at one blank: the walk (own text). -/
import Derived.Test.YtbgoedhpndflpaaDoorTold
import Derived.Test.YtbgoedhpndflpaaDoorCmdPlain
import Derived.Test.YtbgoedhpndflpaaDoorWShare
import Derived.Test.YtbgoedhpndflpaaDoorWMore
import Derived.Test.YtbgoedhpndflpaaDoorWWords
import Derived.Laws.MakeOwn
import Derived.Laws.Slices
import Derived.WalkKit
import Derived.KernelRfl
import Derived.Lib.Hide
import Derived.IntWalk
namespace Go.Proofs.YtbgoedhpndflpaaDoor.Split
open Go.RowKit Go.Proofs.YtbgoedhpndflpaaDoorW.PrintWords Go.Proofs.YtbgoedhpndflpaaDoorW.PrintLast Go.Proofs.YtbgoedhpndflpaaDoorW.PrintMore
attribute [local go_sem] max2_int min2_int max_two min_two
set_option linter.unusedVariables false
set_option linter.unusedSimpArgs false
theorem infoS : (Tryd.prog.info? 9).map (fun i => (i.zero, i.size, i.bytes)) = some (some (.string ⟨#[]⟩), 1, 16) := by kernel_rfl
def toB (l : List UInt8) : ByteArray := ⟨l.toArray⟩
/-- A text, parted at each blank. -/
def splitB (s : ByteArray) : List ByteArray := (Cmd.splitS s.data.toList).map toB
theorem splitB_length (s : ByteArray) : (splitB s).length = s.data.toList.count 32 + 1 := by
  unfold splitB
  rw [List.length_map, Cmd.splitS_length]
theorem ext_list {a b : ByteArray} (h : a.data.toList = b.data.toList) : a = b := by
  obtain ⟨⟨a⟩⟩ := a
  obtain ⟨⟨b⟩⟩ := b
  simp only at h
  rw [h]
theorem toB_data (x : ByteArray) : toB x.data.toList = x := ext_list rfl
theorem splitB_one (x : ByteArray) (h : 32 ∉ x.data.toList) : splitB x = [x] := by
  unfold splitB
  rw [Cmd.splitS_free _ h]
  simp only [List.map_cons, List.map_nil, toB_data]
theorem extract_data (x : ByteArray) (i j : Nat) : (x.extract i j).data.toList = (x.data.toList.take j).drop i := by
  rw [ByteArray.data_extract, Array.toList_extract]
  simp only [List.extract_eq_take_drop, List.drop_take]
theorem splitB_part (x : ByteArray) (m : Nat) (h : Lib.indexByte x.data.toList 32 = (m : Int)) : m + 1 ≤ x.size ∧ splitB x = x.extract 0 m :: splitB (x.extract (m + 1) x.size) := by
  obtain ⟨a, b, e, hm, hf⟩ := Cmd.index_some _ _ h
  have hl : x.size = m + 1 + b.length := by
    have : x.data.toList.length = x.size := by rw [Array.length_toList]; rfl
    rw [← this, e, List.length_append, List.length_cons, hm]; omega
  refine ⟨by omega, ?_⟩
  unfold splitB
  rw [extract_data, e, Cmd.splitS_part _ _ hf]
  have e1 : (a ++ 32 :: b).take x.size = a ++ 32 :: b := List.take_of_length_le (by rw [List.length_append, List.length_cons]; omega)
  have e2 : (a ++ 32 :: b).drop (m + 1) = b := by
    rw [← hm, List.drop_append]
    simp
  rw [e1, e2, List.map_cons]
  congr 1
  refine ext_list ?_
  rw [extract_data, e, List.drop_zero, ← hm, List.take_left']
  · rfl
  · rfl
theorem take_put {α : Type} (xs : List α) (j : Nat) (y : α) (h : j < xs.length) : (xs.set j y).take (j + 1) = xs.take j ++ [y] := by
  rw [List.take_succ_eq_append_getElem (by rw [List.length_set]; exact h), List.take_set_of_le (by omega), List.getElem_set_self]
set_option maxRecDepth 100000 in
set_option maxHeartbeats 1600000 in
theorem gen_blank (s : ByteArray) (hs : s.size ≤ 1000000) (w : World) :
    Calls Tryd.prog 30 #[.string s, .string ⟨#[32]⟩, .int .i64 0, .int .i64 (-1)] w fun e w' => ∃ v, e = .returned v ∧ Kd.R Kd.string 9 w' w.heap.size (fun _ => True) v (splitB s) ∧ Below w.heap.size w w' := by
  have hlen := splitB_length s
  have hle : s.data.toList.count 32 ≤ s.size := by
    have h1 := List.count_le_length (a := (32 : UInt8)) (l := s.data.toList)
    have h2 : s.data.toList.length = s.size := by rw [Array.length_toList]; rfl
    omega
  have HC := Lib.hid (fun w => Told.count_one s 32 w)
  have hc : Lib.countByte s.data.toList 32 = s.data.toList.count 32 := rfl
  rw [hc] at HC
  generalize s.data.toList.count 32 = n at *
  have HL := Lib.hid hlen
  clear hlen hc
  have h1 : decide ((n : Int) + 1 ≤ (s.size : Int) + 1) = true := decide_eq_true (by omega)
  have h2 : decide ((s.size : Int) + 1 < (n : Int) + 1) = false := decide_eq_false (by omega)
  have h3 : decide ((s.size : Int) < (n : Int)) = false := decide_eq_false (by omega)
  have h4 : decide ((n : Int) < (s.size : Int)) = true ∨ True := Or.inr trivial
  clear h4
  go_enter Tryd.func30, Tryd.ntmps30
  go_wp2_with (first
    | (go_at_call 39; refine (HC.out _).mono ?_; rintro e w' ⟨rfl, ⟨nd, rfl⟩⟩)
    | ((with_reducible refine gate_dst (N := 31) rfl ?_); refine Kd.R_make Kd.string _ 9 rfl (N := 31) rfl 38 _ _ rfl ((n : Int) + 1) rfl rfl Tryd.underlying38 (.string ⟨#[]⟩) 16 infoS rfl (by decide) (by omega) (⟨#[]⟩ : ByteArray) (ok := fun _ => True) (okp := fun _ => True) rfl (fun _ hk => hk) trivial (by omega) (by omega) (Below.refl _ _) (Nat.le_refl _) ?_; intro v1 w2 ho2 hb2 hg2 hnew2; clear hg2 hnew2))
  have HO := Lib.hid (Kd.R_lower (base' := w.heap.size) ho2 (by simp))
  have HB : Hid (Below w.heap.size w w2) := Lib.hid (below_step (by apply pw_below_drewN; exact Below.refl _ _) hb2)
  clear ho2 hb2 h1 h2 h3 HC
  have HI := Lib.hid (fun (x : ByteArray) w => Told.index_one x 32 w)
  have hwr : ∀ j : Nat, j ≤ 1000000 → IntKind.i64.wrap ((j : Int) + 1) = (j : Int) + 1 := fun j hj => IntWalk.i64_in _ ⟨by omega, by omega⟩
  have HW := Lib.hid hwr
  clear hwr
  obtain ⟨g, cap, rfl, hg, hgl, cells, hgc⟩ := Kd.R_form HO.out (by rw [List.length_replicate]; omega)
  clear hgc cells hgl
  rw [List.length_replicate] at HO
  have hnn : ((n : Int) + 1).toNat = n + 1 := by omega
  rw [hnn] at HO
  rw [List.length_replicate, hnn]
  clear hnn
  go_loopw [0, 10] (fun s9 i w' => ∃ (x : ByteArray) (xs : List ByteArray) (j : Nat), s9 = .string x ∧ i = .int .i64 j ∧ j ≤ n ∧ Hid (xs.length = n + 1) ∧ Hid (x.size ≤ s.size) ∧ Hid (xs.take j ++ splitB x = splitB s) ∧ Hid (Kd.R Kd.string 9 w' w.heap.size (fun _ => True) (.slice (some ⟨g, 0, none⟩) (n + 1) cap) xs) ∧ Hid (Below w.heap.size w w')) (fun _ i _ => n - (intOf i).toNat)
  case atStart => exact ⟨s, List.replicate (n + 1) ⟨#[]⟩, 0, rfl, rfl, by omega, Lib.hid (List.length_replicate ..), Lib.hid (Nat.le_refl _), Lib.hid (by simp), HO, HB⟩
  case round =>
    obtain ⟨x, xs, j, rfl, rfl, hj, hxl, hxs, hsp, ho, hb⟩ := hrel
    have hlx : (splitB x).length = n + 1 - j := by
      have h5 := congrArg List.length hsp.out
      rw [List.length_append, List.length_take, hxl.out, HL.out] at h5
      omega
    obtain ⟨hx0, hf0⟩ := Kd.R_celln (⟨#[]⟩ : ByteArray) ho.out (j : Int) (by omega) (by omega)
    have hput := Lib.hid (fun y => Kd.R_putg ho.out (j : Int) y)
    have hputd := Lib.hid (fun nd y => Kd.R_putg (Kd.R_drewN ho.out nd) (j : Int) y)
    rw [Int.toNat_natCast] at hx0 hf0
    simp only [Int.toNat_natCast] at hput hputd
    have hbw : w.heap.size ≤ g := hg
    by_cases hlt : j < n
    · have hm : 0 ≤ Lib.indexByte x.data.toList 32 := by
        by_cases h6 : 0 ≤ Lib.indexByte x.data.toList 32
        · exact h6
        · have h7 := splitB_one x (Cmd.index_none _ (by omega))
          rw [h7] at hlx
          simp at hlx
          omega
      obtain ⟨m, hm'⟩ := Int.eq_ofNat_of_zero_le hm
      obtain ⟨hms, hpart⟩ := splitB_part x m hm'
      have HI' := Lib.hid (fun w => HI.out x w)
      rw [hm'] at HI'
      have HP := Lib.hid hpart
      have hsx := hxs.out
      have d1 : decide ((m : Int) < 0) = false := decide_eq_false (by omega)
      clear hm hm' hpart hlx
      go_wp2_with (go_at_call 40; refine (HI'.out _).mono ?_; rintro e w' ⟨rfl, ⟨nd, rfl⟩⟩)
      go_roundw
      case rel =>
        have hq := (hputd.out nd (x.extract 0 m)).1
        refine ⟨x.extract (m + 1) x.size, xs.set j (x.extract 0 m), j + 1, rfl, by go_num, by omega, Lib.hid (by rw [List.length_set]; exact hxl.out), Lib.hid ?_, Lib.hid ?_, Lib.hid hq, Lib.hid (below_set (by apply pw_below_drewN; exact hb.out) hg)⟩
        · rw [ByteArray.size_extract]; omega
        · rw [← hsp.out, HP.out, take_put xs j _ (by rw [hxl.out]; omega), List.append_assoc]; rfl
      case measure => simp [intOf]; omega
    · obtain rfl : j = n := by omega
      clear hlt
      have d1 : decide ((j : Int) < (j : Int)) = false := decide_eq_false (by omega)
      have hsx := hxs.out
      have hcap : j + 1 ≤ cap := (Kd.R_reads' ho.out).2.1
      go_wp2_with (fail)
      go_ret
      have h7 : splitB x = [x] := by
        match hs7 : splitB x, hlx with
        | [y], _ =>
          by_cases h8 : 0 ≤ Lib.indexByte x.data.toList 32
          · obtain ⟨m, hm'⟩ := Int.eq_ofNat_of_zero_le h8
            obtain ⟨_, hp⟩ := splitB_part x m hm'
            rw [hs7] at hp
            exact absurd (congrArg List.length hp) (by have := splitB_length (x.extract (m + 1) x.size); simp only [List.length_cons, List.length_nil]; omega)
          · exact hs7 ▸ splitB_one x (Cmd.index_none _ (by omega))
        | [], h => simp at h
        | _ :: _ :: _, h => simp at h
      have h9 : xs.set j x = splitB s := by
        rw [← hsp.out, h7, ← take_put xs j x (by rw [hxl.out]; omega), List.take_of_length_le (by rw [List.length_set, hxl.out]; exact Nat.le_refl _)]
      exact ⟨_, rfl, h9 ▸ (hput.out x).1, below_set hb.out hg⟩
theorem split_blank (s : ByteArray) (hs : s.size ≤ 1000000) (w : World) :
    Calls Tryd.prog 21 #[.string s, .string ⟨#[32]⟩] w fun e w' => ∃ v, e = .returned v ∧ Kd.R Kd.string 9 w' w.heap.size (fun _ => True) v (splitB s) ∧ Below w.heap.size w w' := by
  have HG := Lib.hid (fun w => gen_blank s hs w)
  go_enter Tryd.func21, Tryd.ntmps21
  go_wp2_with (go_at_call 30; refine (HG.out _).mono ?_; rintro e w' ⟨v, rfl, ho, hb⟩)
  go_ret
  exact ⟨v, rfl, ho, hb⟩
end Go.Proofs.YtbgoedhpndflpaaDoor.Split
